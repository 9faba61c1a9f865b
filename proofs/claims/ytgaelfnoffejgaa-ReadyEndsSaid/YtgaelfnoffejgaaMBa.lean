/-
 What reads and writes words and threads: runs (rdP).
-/
import Derived.Test.YtgaelfnoffejgaaMB0
set_option linter.unusedSimpArgs false
set_option linter.unusedVariables false
set_option maxRecDepth 100000
noncomputable section
namespace Go.Ev.X
open Go Go.Ev Go.Proofs
theorem rdP_run : allB (fun a => smK cP 38 (rdS a)) (rng 512) = true := by decide +kernel
end Go.Ev.X
end
/-
 What reads and writes words and threads: runs (wrP).
-/
set_option linter.unusedSimpArgs false
set_option linter.unusedVariables false
set_option maxRecDepth 100000
noncomputable section
namespace Go.Ev.X
open Go Go.Ev Go.Proofs
theorem wrP_run : allB (fun a => smK cP 53 (wrS a)) (rng 512) = true := by decide +kernel
end Go.Ev.X
end
