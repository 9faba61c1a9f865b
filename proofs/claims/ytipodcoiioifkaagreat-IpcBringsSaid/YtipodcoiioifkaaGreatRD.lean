/-
  What is run.
-/
import Derived.Test.YtipodcoiioifkaaGreatAX
import Derived.Test.YtipodcoiioifkaaGreatE5
set_option linter.unusedSimpArgs false
set_option linter.unusedVariables false
set_option maxRecDepth 100000
noncomputable section
namespace Go.Ev.X
open Go Go.Ev
def bK (x y : Nat) : CallT := pureS 7 [.si .i64 (.v 0), .i .i64 40] (.i .i64 (.ofNat x)) (pureS 7 [.si .i64 (.v 1), .i .i64 40] (.i .i64 (.ofNat y)) (memoS ab callA))
def argsB (g : Bool) : List V := [.b g, .si .i64 (.v 0), .si .i64 (.v 1)]
def runB (g : Bool) (x y : Nat) : Nat := callS cx1 0 (bK x y) 3 (argsB g) ⟨.h, .h, .e⟩ ⟨[], []⟩ endB
def ys : List Nat := [0, 1, 2, 3, 4, 5, 6, 7, 8, 9, 10, 11, 12, 13, 14, 15, 16, 17, 18, 19, 20, 21, 22, 23, 24, 25, 26, 27, 28, 29, 30, 31, 32, 33, 34, 35, 36, 37, 38, 39]
def rowB (x : Nat) : Bool := allB (fun y => bc (Nat.beq (runB true x y) 0) (Nat.beq (runB false x y) 0) false) ys
theorem pk40_0 : callS cx1 0 call1 7 [.si .i64 (.v 0), .i .i64 40] ⟨.h, .h, .e⟩ ⟨[(.cmp .lss (.v 0) (.lit 0), false)], []⟩ (endV (.si .i64 (.op .rem .i64 (.v 0) (.lit 40)))) = 0 := by decide +kernel
theorem pk40_1 : callS cx1 0 call1 7 [.si .i64 (.v 0), .i .i64 40] ⟨.h, .h, .e⟩ ⟨[(.cmp .lss (.v 0) (.lit 0), true)], []⟩ (endV (.si .i64 (.op .rem .i64 (.op .sub .i64 (.lit 0) (.op .add .i64 (.v 0) (.lit 1))) (.lit 40)))) = 0 := by decide +kernel
end Go.Ev.X
end
