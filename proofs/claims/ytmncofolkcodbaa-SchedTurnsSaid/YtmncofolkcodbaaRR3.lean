/-
  The runs, part 3.
-/
import Derived.Test.YtmncofolkcodbaaST
set_option linter.unusedSimpArgs false
set_option linter.unusedVariables false
set_option maxRecDepth 100000
noncomputable section
namespace Go.Ev.X
open Go Go.Ev
theorem rb3 : rowB 3 = true := by decide +kernel
theorem rb19 : rowB 19 = true := by decide +kernel
theorem rb35 : rowB 35 = true := by decide +kernel
theorem rb51 : rowB 51 = true := by decide +kernel
theorem rb67 : rowB 67 = true := by decide +kernel
theorem rb83 : rowB 83 = true := by decide +kernel
theorem rb99 : rowB 99 = true := by decide +kernel
theorem rb115 : rowB 115 = true := by decide +kernel
theorem rb131 : rowB 131 = true := by decide +kernel
theorem rb147 : rowB 147 = true := by decide +kernel
theorem rb163 : rowB 163 = true := by decide +kernel
theorem rb179 : rowB 179 = true := by decide +kernel
theorem rb195 : rowB 195 = true := by decide +kernel
theorem rb211 : rowB 211 = true := by decide +kernel
theorem rb227 : rowB 227 = true := by decide +kernel
theorem rb243 : rowB 243 = true := by decide +kernel
end Go.Ev.X
end
