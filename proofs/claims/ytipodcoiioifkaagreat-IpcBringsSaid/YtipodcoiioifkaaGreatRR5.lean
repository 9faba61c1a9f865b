/-
  The runs, part 5.
-/
import Derived.Test.YtipodcoiioifkaaGreatRD
set_option linter.unusedSimpArgs false
set_option linter.unusedVariables false
set_option maxRecDepth 100000
noncomputable section
namespace Go.Ev.X
open Go Go.Ev
theorem rb5 : rowB 5 = true := by decide +kernel
theorem rb13 : rowB 13 = true := by decide +kernel
theorem rb21 : rowB 21 = true := by decide +kernel
theorem rb29 : rowB 29 = true := by decide +kernel
theorem rb37 : rowB 37 = true := by decide +kernel
end Go.Ev.X
end
