/-
  The runs, part 11.
-/
import Derived.Test.YtmncofolkcodbaaST
set_option linter.unusedSimpArgs false
set_option linter.unusedVariables false
set_option maxRecDepth 100000
noncomputable section
namespace Go.Ev.X
open Go Go.Ev
theorem rb11 : rowB 11 = true := by decide +kernel
theorem rb27 : rowB 27 = true := by decide +kernel
theorem rb43 : rowB 43 = true := by decide +kernel
theorem rb59 : rowB 59 = true := by decide +kernel
theorem rb75 : rowB 75 = true := by decide +kernel
theorem rb91 : rowB 91 = true := by decide +kernel
theorem rb107 : rowB 107 = true := by decide +kernel
theorem rb123 : rowB 123 = true := by decide +kernel
theorem rb139 : rowB 139 = true := by decide +kernel
theorem rb155 : rowB 155 = true := by decide +kernel
theorem rb171 : rowB 171 = true := by decide +kernel
theorem rb187 : rowB 187 = true := by decide +kernel
theorem rb203 : rowB 203 = true := by decide +kernel
theorem rb219 : rowB 219 = true := by decide +kernel
theorem rb235 : rowB 235 = true := by decide +kernel
theorem rb251 : rowB 251 = true := by decide +kernel
end Go.Ev.X
end
