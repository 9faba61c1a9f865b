/-
  Runs of the law.
-/
import Derived.Test.YtligpkenodgfoaaGreatDoorLS
import Derived.Test.YtligpkenodgfoaaGreatDoorAX
set_option linter.unusedSimpArgs false
set_option linter.unusedVariables false
set_option maxRecDepth 100000
noncomputable section
namespace Go.Ev.X
open Go Go.Ev
def wayL (n : Nat) (v : V) : CallT := pureS 10 [.si .i64 (.v 0), .i .i64 16] (.i .i64 (.ofNat n)) (pureS 10 [.si .i64 (.v 1), .i .i64 268435456] v (memoS gbm callA))
def inF (z : Bool) : Fa := ⟨bif z then [] else fB, []⟩
end Go.Ev.X
end
