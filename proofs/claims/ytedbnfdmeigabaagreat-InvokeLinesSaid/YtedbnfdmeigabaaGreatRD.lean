/-
  What is run.
-/
import Derived.Test.YtedbnfdmeigabaaGreatAX
import Derived.Test.YtedbnfdmeigabaaGreatE5
set_option linter.unusedSimpArgs false
set_option linter.unusedVariables false
set_option maxRecDepth 100000
noncomputable section
namespace Go.Ev.X
open Go Go.Ev
def bK (x y : Nat) : CallT := pureS 10 [.si .i64 (.v 0), .i .i64 16] (.i .i64 (.ofNat x)) (pureS 10 [.si .i64 (.v 1), .i .i64 3] (.i .i64 (.ofNat y)) (memoS ab callA))
def argsB : List V := [.si .i64 (.v 0), .si .i64 (.v 1)]
def runB (x y : Nat) : Nat := callS cx1 0 (bK x y) 6 argsB ⟨.h, .h, .e⟩ ⟨[], []⟩ endB
theorem pk16_0 : callS cx1 0 call1 10 [.si .i64 (.v 0), .i .i64 16] ⟨.h, .h, .e⟩ ⟨[(.cmp .lss (.v 0) (.lit 0), false)], []⟩ (endV (.si .i64 (.op .rem .i64 (.v 0) (.lit 16)))) = 0 := by decide +kernel
theorem pk16_1 : callS cx1 0 call1 10 [.si .i64 (.v 0), .i .i64 16] ⟨.h, .h, .e⟩ ⟨[(.cmp .lss (.v 0) (.lit 0), true)], []⟩ (endV (.si .i64 (.op .rem .i64 (.op .sub .i64 (.lit 0) (.op .add .i64 (.v 0) (.lit 1))) (.lit 16)))) = 0 := by decide +kernel
theorem pk3_0 : callS cx1 0 call1 10 [.si .i64 (.v 0), .i .i64 3] ⟨.h, .h, .e⟩ ⟨[(.cmp .lss (.v 0) (.lit 0), false)], []⟩ (endV (.si .i64 (.op .rem .i64 (.v 0) (.lit 3)))) = 0 := by decide +kernel
theorem pk3_1 : callS cx1 0 call1 10 [.si .i64 (.v 0), .i .i64 3] ⟨.h, .h, .e⟩ ⟨[(.cmp .lss (.v 0) (.lit 0), true)], []⟩ (endV (.si .i64 (.op .rem .i64 (.op .sub .i64 (.lit 0) (.op .add .i64 (.v 0) (.lit 1))) (.lit 3)))) = 0 := by decide +kernel
end Go.Ev.X
end
