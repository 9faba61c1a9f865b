/-
  The runs, part 2.
-/
import Derived.Test.YtmncofolkcodbaaST
set_option linter.unusedSimpArgs false
set_option linter.unusedVariables false
set_option maxRecDepth 100000
noncomputable section
namespace Go.Ev.X
open Go Go.Ev
theorem rb2 : rowB 2 = true := by decide +kernel
theorem rb18 : rowB 18 = true := by decide +kernel
theorem rb34 : rowB 34 = true := by decide +kernel
theorem rb50 : rowB 50 = true := by decide +kernel
theorem rb66 : rowB 66 = true := by decide +kernel
theorem rb82 : rowB 82 = true := by decide +kernel
theorem rb98 : rowB 98 = true := by decide +kernel
theorem rb114 : rowB 114 = true := by decide +kernel
theorem rb130 : rowB 130 = true := by decide +kernel
theorem rb146 : rowB 146 = true := by decide +kernel
theorem rb162 : rowB 162 = true := by decide +kernel
theorem rb178 : rowB 178 = true := by decide +kernel
theorem rb194 : rowB 194 = true := by decide +kernel
theorem rb210 : rowB 210 = true := by decide +kernel
theorem rb226 : rowB 226 = true := by decide +kernel
theorem rb242 : rowB 242 = true := by decide +kernel
end Go.Ev.X
end
