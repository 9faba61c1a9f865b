/-
  The runs, part 0.
-/
import Derived.Test.YtmncofolkcodbaaST
set_option linter.unusedSimpArgs false
set_option linter.unusedVariables false
set_option maxRecDepth 100000
noncomputable section
namespace Go.Ev.X
open Go Go.Ev
theorem rb0 : rowB 0 = true := by decide +kernel
theorem rb16 : rowB 16 = true := by decide +kernel
theorem rb32 : rowB 32 = true := by decide +kernel
theorem rb48 : rowB 48 = true := by decide +kernel
theorem rb64 : rowB 64 = true := by decide +kernel
theorem rb80 : rowB 80 = true := by decide +kernel
theorem rb96 : rowB 96 = true := by decide +kernel
theorem rb112 : rowB 112 = true := by decide +kernel
theorem rb128 : rowB 128 = true := by decide +kernel
theorem rb144 : rowB 144 = true := by decide +kernel
theorem rb160 : rowB 160 = true := by decide +kernel
theorem rb176 : rowB 176 = true := by decide +kernel
theorem rb192 : rowB 192 = true := by decide +kernel
theorem rb208 : rowB 208 = true := by decide +kernel
theorem rb224 : rowB 224 = true := by decide +kernel
theorem rb240 : rowB 240 = true := by decide +kernel
end Go.Ev.X
end
