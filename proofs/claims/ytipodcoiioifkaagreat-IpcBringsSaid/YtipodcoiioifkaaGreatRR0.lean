/-
  The runs, part 0.
-/
import Derived.Test.YtipodcoiioifkaaGreatRD
set_option linter.unusedSimpArgs false
set_option linter.unusedVariables false
set_option maxRecDepth 100000
noncomputable section
namespace Go.Ev.X
open Go Go.Ev
theorem rb0 : rowB 0 = true := by decide +kernel
theorem rb8 : rowB 8 = true := by decide +kernel
theorem rb16 : rowB 16 = true := by decide +kernel
theorem rb24 : rowB 24 = true := by decide +kernel
theorem rb32 : rowB 32 = true := by decide +kernel
end Go.Ev.X
end
