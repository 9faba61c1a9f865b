/-
  The runs, part 13.
-/
import Derived.Test.YtmncofolkcodbaaST
set_option linter.unusedSimpArgs false
set_option linter.unusedVariables false
set_option maxRecDepth 100000
noncomputable section
namespace Go.Ev.X
open Go Go.Ev
theorem rb13 : rowB 13 = true := by decide +kernel
theorem rb29 : rowB 29 = true := by decide +kernel
theorem rb45 : rowB 45 = true := by decide +kernel
theorem rb61 : rowB 61 = true := by decide +kernel
theorem rb77 : rowB 77 = true := by decide +kernel
theorem rb93 : rowB 93 = true := by decide +kernel
theorem rb109 : rowB 109 = true := by decide +kernel
theorem rb125 : rowB 125 = true := by decide +kernel
theorem rb141 : rowB 141 = true := by decide +kernel
theorem rb157 : rowB 157 = true := by decide +kernel
theorem rb173 : rowB 173 = true := by decide +kernel
theorem rb189 : rowB 189 = true := by decide +kernel
theorem rb205 : rowB 205 = true := by decide +kernel
theorem rb221 : rowB 221 = true := by decide +kernel
theorem rb237 : rowB 237 = true := by decide +kernel
theorem rb253 : rowB 253 = true := by decide +kernel
end Go.Ev.X
end
