/-
  The runs, part 9.
-/
import Derived.Test.YtmncofolkcodbaaST
set_option linter.unusedSimpArgs false
set_option linter.unusedVariables false
set_option maxRecDepth 100000
noncomputable section
namespace Go.Ev.X
open Go Go.Ev
theorem rb9 : rowB 9 = true := by decide +kernel
theorem rb25 : rowB 25 = true := by decide +kernel
theorem rb41 : rowB 41 = true := by decide +kernel
theorem rb57 : rowB 57 = true := by decide +kernel
theorem rb73 : rowB 73 = true := by decide +kernel
theorem rb89 : rowB 89 = true := by decide +kernel
theorem rb105 : rowB 105 = true := by decide +kernel
theorem rb121 : rowB 121 = true := by decide +kernel
theorem rb137 : rowB 137 = true := by decide +kernel
theorem rb153 : rowB 153 = true := by decide +kernel
theorem rb169 : rowB 169 = true := by decide +kernel
theorem rb185 : rowB 185 = true := by decide +kernel
theorem rb201 : rowB 201 = true := by decide +kernel
theorem rb217 : rowB 217 = true := by decide +kernel
theorem rb233 : rowB 233 = true := by decide +kernel
theorem rb249 : rowB 249 = true := by decide +kernel
end Go.Ev.X
end
