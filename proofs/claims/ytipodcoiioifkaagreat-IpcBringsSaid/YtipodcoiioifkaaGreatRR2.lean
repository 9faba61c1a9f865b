/-
  The runs, part 2.
-/
import Derived.Test.YtipodcoiioifkaaGreatRD
set_option linter.unusedSimpArgs false
set_option linter.unusedVariables false
set_option maxRecDepth 100000
noncomputable section
namespace Go.Ev.X
open Go Go.Ev
theorem rb2 : rowB 2 = true := by decide +kernel
theorem rb10 : rowB 10 = true := by decide +kernel
theorem rb18 : rowB 18 = true := by decide +kernel
theorem rb26 : rowB 26 = true := by decide +kernel
theorem rb34 : rowB 34 = true := by decide +kernel
end Go.Ev.X
end
