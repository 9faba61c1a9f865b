/-
 What reads and writes words and threads: runs (stP).
-/
import Derived.Test.YtkecfebodpkamaaGreatMB0
import Derived.Test.YtkecfebodpkamaaGreatE6
set_option linter.unusedSimpArgs false
set_option linter.unusedVariables false
set_option maxRecDepth 100000
noncomputable section
namespace Go.Ev.X
open Go Go.Ev Go.Proofs
theorem stP_run : allB (fun t => allB (fun q => allB (fun g => allB (fun c => smK cP 66 (stS q g c t)) bools) bools) bools) thrL = true := by decide +kernel
end Go.Ev.X
end
/-
 What reads and writes words and threads: runs (stR).
-/
set_option linter.unusedSimpArgs false
set_option linter.unusedVariables false
set_option maxRecDepth 100000
noncomputable section
namespace Go.Ev.X
open Go Go.Ev Go.Proofs
theorem stR_run : allB (fun t => allB (fun q => allB (fun g => allB (fun c => smK cR 83 (sdS q g c t)) bools) bools) bools) thrL = true := by decide +kernel
end Go.Ev.X
end
