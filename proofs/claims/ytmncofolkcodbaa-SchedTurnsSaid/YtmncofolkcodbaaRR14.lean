/-
  The runs, part 14.
-/
import Derived.Test.YtmncofolkcodbaaST
set_option linter.unusedSimpArgs false
set_option linter.unusedVariables false
set_option maxRecDepth 100000
noncomputable section
namespace Go.Ev.X
open Go Go.Ev
theorem rb14 : rowB 14 = true := by decide +kernel
theorem rb30 : rowB 30 = true := by decide +kernel
theorem rb46 : rowB 46 = true := by decide +kernel
theorem rb62 : rowB 62 = true := by decide +kernel
theorem rb78 : rowB 78 = true := by decide +kernel
theorem rb94 : rowB 94 = true := by decide +kernel
theorem rb110 : rowB 110 = true := by decide +kernel
theorem rb126 : rowB 126 = true := by decide +kernel
theorem rb142 : rowB 142 = true := by decide +kernel
theorem rb158 : rowB 158 = true := by decide +kernel
theorem rb174 : rowB 174 = true := by decide +kernel
theorem rb190 : rowB 190 = true := by decide +kernel
theorem rb206 : rowB 206 = true := by decide +kernel
theorem rb222 : rowB 222 = true := by decide +kernel
theorem rb238 : rowB 238 = true := by decide +kernel
theorem rb254 : rowB 254 = true := by decide +kernel
end Go.Ev.X
end
