/-
  The runs, part 15.
-/
import Derived.Test.YtmncofolkcodbaaST
set_option linter.unusedSimpArgs false
set_option linter.unusedVariables false
set_option maxRecDepth 100000
noncomputable section
namespace Go.Ev.X
open Go Go.Ev
theorem rb15 : rowB 15 = true := by decide +kernel
theorem rb31 : rowB 31 = true := by decide +kernel
theorem rb47 : rowB 47 = true := by decide +kernel
theorem rb63 : rowB 63 = true := by decide +kernel
theorem rb79 : rowB 79 = true := by decide +kernel
theorem rb95 : rowB 95 = true := by decide +kernel
theorem rb111 : rowB 111 = true := by decide +kernel
theorem rb127 : rowB 127 = true := by decide +kernel
theorem rb143 : rowB 143 = true := by decide +kernel
theorem rb159 : rowB 159 = true := by decide +kernel
theorem rb175 : rowB 175 = true := by decide +kernel
theorem rb191 : rowB 191 = true := by decide +kernel
theorem rb207 : rowB 207 = true := by decide +kernel
theorem rb223 : rowB 223 = true := by decide +kernel
theorem rb239 : rowB 239 = true := by decide +kernel
theorem rb255 : rowB 255 = true := by decide +kernel
end Go.Ev.X
end
