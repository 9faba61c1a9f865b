/-
  The runs, part 7.
-/
import Derived.Test.YtipodcoiioifkaaGreatRD
set_option linter.unusedSimpArgs false
set_option linter.unusedVariables false
set_option maxRecDepth 100000
noncomputable section
namespace Go.Ev.X
open Go Go.Ev
theorem rb7 : rowB 7 = true := by decide +kernel
theorem rb15 : rowB 15 = true := by decide +kernel
theorem rb23 : rowB 23 = true := by decide +kernel
theorem rb31 : rowB 31 = true := by decide +kernel
theorem rb39 : rowB 39 = true := by decide +kernel
end Go.Ev.X
end
