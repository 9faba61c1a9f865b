/-
  The runs, part 5.
-/
import Derived.Test.YtmncofolkcodbaaST
set_option linter.unusedSimpArgs false
set_option linter.unusedVariables false
set_option maxRecDepth 100000
noncomputable section
namespace Go.Ev.X
open Go Go.Ev
theorem rb5 : rowB 5 = true := by decide +kernel
theorem rb21 : rowB 21 = true := by decide +kernel
theorem rb37 : rowB 37 = true := by decide +kernel
theorem rb53 : rowB 53 = true := by decide +kernel
theorem rb69 : rowB 69 = true := by decide +kernel
theorem rb85 : rowB 85 = true := by decide +kernel
theorem rb101 : rowB 101 = true := by decide +kernel
theorem rb117 : rowB 117 = true := by decide +kernel
theorem rb133 : rowB 133 = true := by decide +kernel
theorem rb149 : rowB 149 = true := by decide +kernel
theorem rb165 : rowB 165 = true := by decide +kernel
theorem rb181 : rowB 181 = true := by decide +kernel
theorem rb197 : rowB 197 = true := by decide +kernel
theorem rb213 : rowB 213 = true := by decide +kernel
theorem rb229 : rowB 229 = true := by decide +kernel
theorem rb245 : rowB 245 = true := by decide +kernel
end Go.Ev.X
end
