/-
 ReadyEnds: its ends, 0, 0.
-/
import Derived.Test.YtgaelfnoffejgaaVQ
set_option linter.unusedSimpArgs false
set_option linter.unusedVariables false
set_option maxRecDepth 100000
noncomputable section
namespace Go.Ev.X
open Go Go.Ev Go.Proofs
theorem outA00 : outA 0 0 = true := by decide +kernel
end Go.Ev.X
end
