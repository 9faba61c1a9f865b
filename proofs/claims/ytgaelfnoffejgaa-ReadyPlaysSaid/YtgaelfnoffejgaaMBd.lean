/-
 What reads and writes words and threads: runs (rdR).
-/
import Derived.Test.YtgaelfnoffejgaaMB0
set_option linter.unusedSimpArgs false
set_option linter.unusedVariables false
set_option maxRecDepth 100000
noncomputable section
namespace Go.Ev.X
open Go Go.Ev Go.Proofs
theorem rdR_run : allB (fun a => smK cR 66 (rdS a)) (rng 512) = true := by decide +kernel
end Go.Ev.X
end
/-
 What reads and writes words and threads: runs (wrR).
-/
set_option linter.unusedSimpArgs false
set_option linter.unusedVariables false
set_option maxRecDepth 100000
noncomputable section
namespace Go.Ev.X
open Go Go.Ev Go.Proofs
theorem wrR_run : allB (fun a => smK cR 57 (wrS a)) (rng 512) = true := by decide +kernel
end Go.Ev.X
end
