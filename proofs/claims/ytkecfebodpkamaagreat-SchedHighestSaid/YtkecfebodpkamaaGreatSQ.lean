/-
 SchedPlays: its runs.
-/
import Derived.Test.YtkecfebodpkamaaGreatMT
set_option linter.unusedSimpArgs false
set_option linter.unusedVariables false
set_option maxRecDepth 100000
noncomputable section
namespace Go.Ev.X
open Go Go.Ev Go.Proofs
def inA : CallT := asRow 9 q2 (.arr 37 8192 13 (.i .u64 0) abt0) (.oa 37 200 8192 13 .nil) (asRow 9 q1377 (.arr 37 8192 13 (.i .u64 0) abt0) (.oa 37 100 8192 13 .nil) (memoS gb (callAx call1)))
def hIn : H := ⟨q2, q2, (PT.e : PT O).set q1 (.row 0 3 (.v 1) (.v 2) [])⟩
end Go.Ev.X
end
