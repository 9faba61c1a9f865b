/-
  The runs, part 1.
-/
import Derived.Test.YtmncofolkcodbaaST
set_option linter.unusedSimpArgs false
set_option linter.unusedVariables false
set_option maxRecDepth 100000
noncomputable section
namespace Go.Ev.X
open Go Go.Ev
theorem rb1 : rowB 1 = true := by decide +kernel
theorem rb17 : rowB 17 = true := by decide +kernel
theorem rb33 : rowB 33 = true := by decide +kernel
theorem rb49 : rowB 49 = true := by decide +kernel
theorem rb65 : rowB 65 = true := by decide +kernel
theorem rb81 : rowB 81 = true := by decide +kernel
theorem rb97 : rowB 97 = true := by decide +kernel
theorem rb113 : rowB 113 = true := by decide +kernel
theorem rb129 : rowB 129 = true := by decide +kernel
theorem rb145 : rowB 145 = true := by decide +kernel
theorem rb161 : rowB 161 = true := by decide +kernel
theorem rb177 : rowB 177 = true := by decide +kernel
theorem rb193 : rowB 193 = true := by decide +kernel
theorem rb209 : rowB 209 = true := by decide +kernel
theorem rb225 : rowB 225 = true := by decide +kernel
theorem rb241 : rowB 241 = true := by decide +kernel
end Go.Ev.X
end
