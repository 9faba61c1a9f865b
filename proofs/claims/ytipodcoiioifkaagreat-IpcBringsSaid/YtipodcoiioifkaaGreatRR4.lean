/-
  The runs, part 4.
-/
import Derived.Test.YtipodcoiioifkaaGreatRD
set_option linter.unusedSimpArgs false
set_option linter.unusedVariables false
set_option maxRecDepth 100000
noncomputable section
namespace Go.Ev.X
open Go Go.Ev
theorem rb4 : rowB 4 = true := by decide +kernel
theorem rb12 : rowB 12 = true := by decide +kernel
theorem rb20 : rowB 20 = true := by decide +kernel
theorem rb28 : rowB 28 = true := by decide +kernel
theorem rb36 : rowB 36 = true := by decide +kernel
end Go.Ev.X
end
