/-
  The runs, part 4.
-/
import Derived.Test.YtmncofolkcodbaaST
set_option linter.unusedSimpArgs false
set_option linter.unusedVariables false
set_option maxRecDepth 100000
noncomputable section
namespace Go.Ev.X
open Go Go.Ev
theorem rb4 : rowB 4 = true := by decide +kernel
theorem rb20 : rowB 20 = true := by decide +kernel
theorem rb36 : rowB 36 = true := by decide +kernel
theorem rb52 : rowB 52 = true := by decide +kernel
theorem rb68 : rowB 68 = true := by decide +kernel
theorem rb84 : rowB 84 = true := by decide +kernel
theorem rb100 : rowB 100 = true := by decide +kernel
theorem rb116 : rowB 116 = true := by decide +kernel
theorem rb132 : rowB 132 = true := by decide +kernel
theorem rb148 : rowB 148 = true := by decide +kernel
theorem rb164 : rowB 164 = true := by decide +kernel
theorem rb180 : rowB 180 = true := by decide +kernel
theorem rb196 : rowB 196 = true := by decide +kernel
theorem rb212 : rowB 212 = true := by decide +kernel
theorem rb228 : rowB 228 = true := by decide +kernel
theorem rb244 : rowB 244 = true := by decide +kernel
end Go.Ev.X
end
