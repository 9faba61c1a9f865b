/-
  The runs, part 3.
-/
import Derived.Test.YtipodcoiioifkaaGreatRD
set_option linter.unusedSimpArgs false
set_option linter.unusedVariables false
set_option maxRecDepth 100000
noncomputable section
namespace Go.Ev.X
open Go Go.Ev
theorem rb3 : rowB 3 = true := by decide +kernel
theorem rb11 : rowB 11 = true := by decide +kernel
theorem rb19 : rowB 19 = true := by decide +kernel
theorem rb27 : rowB 27 = true := by decide +kernel
theorem rb35 : rowB 35 = true := by decide +kernel
end Go.Ev.X
end
