/-
  The runs, part 1.
-/
import Derived.Test.YtipodcoiioifkaaGreatRD
set_option linter.unusedSimpArgs false
set_option linter.unusedVariables false
set_option maxRecDepth 100000
noncomputable section
namespace Go.Ev.X
open Go Go.Ev
theorem rb1 : rowB 1 = true := by decide +kernel
theorem rb9 : rowB 9 = true := by decide +kernel
theorem rb17 : rowB 17 = true := by decide +kernel
theorem rb25 : rowB 25 = true := by decide +kernel
theorem rb33 : rowB 33 = true := by decide +kernel
end Go.Ev.X
end
