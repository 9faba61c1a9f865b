/-
 Threads are written at any of sixteen places: runs (0).
-/
import Derived.Test.YtgaelfnoffejgaaUT
set_option linter.unusedSimpArgs false
set_option linter.unusedVariables false
set_option maxRecDepth 100000
noncomputable section
namespace Go.Ev.X
open Go Go.Ev Go.Proofs
theorem st16_run0 : allB (fun i => allB (fun q => allB (fun g => allB (fun c => smK cP 28 (stS q g c (t16 i))) bools) bools) bools) (rngF 0 4) = true := by decide +kernel
end Go.Ev.X
end
/-
 Threads are written at any of sixteen places: runs (1).
-/
set_option linter.unusedSimpArgs false
set_option linter.unusedVariables false
set_option maxRecDepth 100000
noncomputable section
namespace Go.Ev.X
open Go Go.Ev Go.Proofs
theorem st16_run1 : allB (fun i => allB (fun q => allB (fun g => allB (fun c => smK cP 28 (stS q g c (t16 i))) bools) bools) bools) (rngF 4 4) = true := by decide +kernel
end Go.Ev.X
end
