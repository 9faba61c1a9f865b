/-
  The runs, part 6.
-/
import Derived.Test.YtmncofolkcodbaaST
set_option linter.unusedSimpArgs false
set_option linter.unusedVariables false
set_option maxRecDepth 100000
noncomputable section
namespace Go.Ev.X
open Go Go.Ev
theorem rb6 : rowB 6 = true := by decide +kernel
theorem rb22 : rowB 22 = true := by decide +kernel
theorem rb38 : rowB 38 = true := by decide +kernel
theorem rb54 : rowB 54 = true := by decide +kernel
theorem rb70 : rowB 70 = true := by decide +kernel
theorem rb86 : rowB 86 = true := by decide +kernel
theorem rb102 : rowB 102 = true := by decide +kernel
theorem rb118 : rowB 118 = true := by decide +kernel
theorem rb134 : rowB 134 = true := by decide +kernel
theorem rb150 : rowB 150 = true := by decide +kernel
theorem rb166 : rowB 166 = true := by decide +kernel
theorem rb182 : rowB 182 = true := by decide +kernel
theorem rb198 : rowB 198 = true := by decide +kernel
theorem rb214 : rowB 214 = true := by decide +kernel
theorem rb230 : rowB 230 = true := by decide +kernel
theorem rb246 : rowB 246 = true := by decide +kernel
end Go.Ev.X
end
