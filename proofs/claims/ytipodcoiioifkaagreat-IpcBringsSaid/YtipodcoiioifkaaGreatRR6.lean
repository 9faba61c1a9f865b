/-
  The runs, part 6.
-/
import Derived.Test.YtipodcoiioifkaaGreatRD
set_option linter.unusedSimpArgs false
set_option linter.unusedVariables false
set_option maxRecDepth 100000
noncomputable section
namespace Go.Ev.X
open Go Go.Ev
theorem rb6 : rowB 6 = true := by decide +kernel
theorem rb14 : rowB 14 = true := by decide +kernel
theorem rb22 : rowB 22 = true := by decide +kernel
theorem rb30 : rowB 30 = true := by decide +kernel
theorem rb38 : rowB 38 = true := by decide +kernel
end Go.Ev.X
end
