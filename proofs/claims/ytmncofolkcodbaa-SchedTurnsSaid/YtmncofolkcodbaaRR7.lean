/-
  The runs, part 7.
-/
import Derived.Test.YtmncofolkcodbaaST
set_option linter.unusedSimpArgs false
set_option linter.unusedVariables false
set_option maxRecDepth 100000
noncomputable section
namespace Go.Ev.X
open Go Go.Ev
theorem rb7 : rowB 7 = true := by decide +kernel
theorem rb23 : rowB 23 = true := by decide +kernel
theorem rb39 : rowB 39 = true := by decide +kernel
theorem rb55 : rowB 55 = true := by decide +kernel
theorem rb71 : rowB 71 = true := by decide +kernel
theorem rb87 : rowB 87 = true := by decide +kernel
theorem rb103 : rowB 103 = true := by decide +kernel
theorem rb119 : rowB 119 = true := by decide +kernel
theorem rb135 : rowB 135 = true := by decide +kernel
theorem rb151 : rowB 151 = true := by decide +kernel
theorem rb167 : rowB 167 = true := by decide +kernel
theorem rb183 : rowB 183 = true := by decide +kernel
theorem rb199 : rowB 199 = true := by decide +kernel
theorem rb215 : rowB 215 = true := by decide +kernel
theorem rb231 : rowB 231 = true := by decide +kernel
theorem rb247 : rowB 247 = true := by decide +kernel
end Go.Ev.X
end
