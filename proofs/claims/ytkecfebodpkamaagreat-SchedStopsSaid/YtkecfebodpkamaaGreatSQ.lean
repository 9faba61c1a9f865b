/-
 SchedPlays: its runs.
-/
import Derived.Test.YtkecfebodpkamaaGreatMT
set_option linter.unusedSimpArgs false
set_option linter.unusedVariables false
set_option maxRecDepth 100000
noncomputable section
namespace Go.Ev.X
open Go Go.Ev Go.Proofs
def hIn : H := ⟨q2, q2, (PT.e : PT O).set q1 (.row 0 3 (.v 1) (.v 2) [])⟩
end Go.Ev.X
end
