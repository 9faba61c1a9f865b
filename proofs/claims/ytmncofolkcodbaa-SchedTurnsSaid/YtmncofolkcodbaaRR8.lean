/-
  The runs, part 8.
-/
import Derived.Test.YtmncofolkcodbaaST
set_option linter.unusedSimpArgs false
set_option linter.unusedVariables false
set_option maxRecDepth 100000
noncomputable section
namespace Go.Ev.X
open Go Go.Ev
theorem rb8 : rowB 8 = true := by decide +kernel
theorem rb24 : rowB 24 = true := by decide +kernel
theorem rb40 : rowB 40 = true := by decide +kernel
theorem rb56 : rowB 56 = true := by decide +kernel
theorem rb72 : rowB 72 = true := by decide +kernel
theorem rb88 : rowB 88 = true := by decide +kernel
theorem rb104 : rowB 104 = true := by decide +kernel
theorem rb120 : rowB 120 = true := by decide +kernel
theorem rb136 : rowB 136 = true := by decide +kernel
theorem rb152 : rowB 152 = true := by decide +kernel
theorem rb168 : rowB 168 = true := by decide +kernel
theorem rb184 : rowB 184 = true := by decide +kernel
theorem rb200 : rowB 200 = true := by decide +kernel
theorem rb216 : rowB 216 = true := by decide +kernel
theorem rb232 : rowB 232 = true := by decide +kernel
theorem rb248 : rowB 248 = true := by decide +kernel
end Go.Ev.X
end
