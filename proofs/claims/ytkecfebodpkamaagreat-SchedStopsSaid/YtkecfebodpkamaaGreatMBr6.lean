/-
 What reads and writes words and threads: runs (thR).
-/
import Derived.Test.YtkecfebodpkamaaGreatMB0
import Derived.Test.YtkecfebodpkamaaGreatE6
set_option linter.unusedSimpArgs false
set_option linter.unusedVariables false
set_option maxRecDepth 100000
noncomputable section
namespace Go.Ev.X
open Go Go.Ev Go.Proofs
theorem thR_run : allB (fun t => allB (fun q => allB (fun g => allB (fun c => smK cR 93 (tdS q g c t)) bools) bools) bools) thrL = true := by decide +kernel
end Go.Ev.X
end
