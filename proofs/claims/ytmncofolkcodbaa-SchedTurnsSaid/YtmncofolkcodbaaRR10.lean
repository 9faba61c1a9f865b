/-
  The runs, part 10.
-/
import Derived.Test.YtmncofolkcodbaaST
set_option linter.unusedSimpArgs false
set_option linter.unusedVariables false
set_option maxRecDepth 100000
noncomputable section
namespace Go.Ev.X
open Go Go.Ev
theorem rb10 : rowB 10 = true := by decide +kernel
theorem rb26 : rowB 26 = true := by decide +kernel
theorem rb42 : rowB 42 = true := by decide +kernel
theorem rb58 : rowB 58 = true := by decide +kernel
theorem rb74 : rowB 74 = true := by decide +kernel
theorem rb90 : rowB 90 = true := by decide +kernel
theorem rb106 : rowB 106 = true := by decide +kernel
theorem rb122 : rowB 122 = true := by decide +kernel
theorem rb138 : rowB 138 = true := by decide +kernel
theorem rb154 : rowB 154 = true := by decide +kernel
theorem rb170 : rowB 170 = true := by decide +kernel
theorem rb186 : rowB 186 = true := by decide +kernel
theorem rb202 : rowB 202 = true := by decide +kernel
theorem rb218 : rowB 218 = true := by decide +kernel
theorem rb234 : rowB 234 = true := by decide +kernel
theorem rb250 : rowB 250 = true := by decide +kernel
end Go.Ev.X
end
