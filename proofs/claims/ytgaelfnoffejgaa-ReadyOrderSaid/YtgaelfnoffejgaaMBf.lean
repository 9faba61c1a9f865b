/-
 What reads and writes words and threads: runs (stR).
-/
import Derived.Test.YtgaelfnoffejgaaMB0
import Derived.Test.YtgaelfnoffejgaaE6
set_option linter.unusedSimpArgs false
set_option linter.unusedVariables false
set_option maxRecDepth 100000
noncomputable section
namespace Go.Ev.X
open Go Go.Ev Go.Proofs
theorem stR_runa : allB (fun t => allB (fun q => allB (fun g => allB (fun c => smK cR 29 (sdS q g c t)) bools) bools) bools) [1024, 1088, 1152, 1216] = true := by decide +kernel
end Go.Ev.X
end
/-
 What reads and writes words and threads: runs (stR).
-/
set_option linter.unusedSimpArgs false
set_option linter.unusedVariables false
set_option maxRecDepth 100000
noncomputable section
namespace Go.Ev.X
open Go Go.Ev Go.Proofs
theorem stR_runb : allB (fun t => allB (fun q => allB (fun g => allB (fun c => smK cR 29 (sdS q g c t)) bools) bools) bools) [1280, 1344, 1408, 1472] = true := by decide +kernel
end Go.Ev.X
end
/-
 What reads and writes words and threads: runs (stR).
-/
set_option linter.unusedSimpArgs false
set_option linter.unusedVariables false
set_option maxRecDepth 100000
noncomputable section
namespace Go.Ev.X
open Go Go.Ev Go.Proofs
theorem stR_run : allB (fun t => allB (fun q => allB (fun g => allB (fun c => smK cR 29 (sdS q g c t)) bools) bools) bools) thrL = true := allB_app (l := [1024, 1088, 1152, 1216]) stR_runa stR_runb
end Go.Ev.X
end
