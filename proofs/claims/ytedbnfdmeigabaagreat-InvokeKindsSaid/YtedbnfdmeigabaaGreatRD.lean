/-
  What is run.
-/
import Derived.Test.YtedbnfdmeigabaaGreatAX
import Derived.Test.YtedbnfdmeigabaaGreatE5
import Derived.Test.YtedbnfdmeigabaaGreatSW
set_option linter.unusedSimpArgs false
set_option linter.unusedVariables false
set_option maxRecDepth 100000
noncomputable section
namespace Go.Ev.X
open Go Go.Ev
def plS (x : Nat) : CallT := pureS 10 [.si .i64 (.v 0), .i .i64 36] (.i .i64 (.ofNat x)) call1
def runP (x s : Nat) : Nat := callS cx1 0 (plS x) 27 [.si .i64 (.v 0)] ⟨.h, .h, .e⟩ ⟨[], []⟩ (endV (.i .i64 (.ofNat s)))
def sameS (inner : CallT) : CallT := fun G l h fa k => bc (Nat.beq G 31) (sameT l h fa k) (inner G l h fa k)
def bK (s : Nat) : CallT := pureS 27 [.si .i64 (.v 0)] (.i .i64 (.ofNat s)) (sameS (memoS ab callA))
def rgK : List (Nat × Int × Int) := [(1, -9223372036854775808, 9223372036854775807), (2, -9223372036854775808, 9223372036854775807)]
def runK (s : Nat) (lv : V) : Nat := callS cx1 0 (bK s) 5 [.si .i64 (.v 0), lv, .si .i64 (.v 2)] ⟨.h, .h, .e⟩ ⟨[], rgK⟩ endB
def belowV (lo : Int) : V := .si .i64 (.mm false (.v 1) (.lit (lo - 1)))
def aboveV (hi : Int) : V := .si .i64 (.mm true (.v 1) (.lit (hi + 1)))
structure OkP (x s : Nat) (lo hi : Int) : Prop where
  place : runP x s = 0
  below : runK s (belowV lo) = 0
  above : runK s (aboveV hi) = 0
  at_ : ∀ L : Int, lo ≤ L → L ≤ hi → runK s (.i .i64 L) = 0
theorem pk36_0 : callS cx1 0 call1 10 [.si .i64 (.v 0), .i .i64 36] ⟨.h, .h, .e⟩ ⟨[(.cmp .lss (.v 0) (.lit 0), false)], []⟩ (endV (.si .i64 (.op .rem .i64 (.v 0) (.lit 36)))) = 0 := by decide +kernel
theorem pk36_1 : callS cx1 0 call1 10 [.si .i64 (.v 0), .i .i64 36] ⟨.h, .h, .e⟩ ⟨[(.cmp .lss (.v 0) (.lit 0), true)], []⟩ (endV (.si .i64 (.op .rem .i64 (.op .sub .i64 (.lit 0) (.op .add .i64 (.v 0) (.lit 1))) (.lit 36)))) = 0 := by decide +kernel
end Go.Ev.X
end
