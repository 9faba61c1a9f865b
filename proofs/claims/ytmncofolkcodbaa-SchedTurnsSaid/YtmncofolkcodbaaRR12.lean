/-
  The runs, part 12.
-/
import Derived.Test.YtmncofolkcodbaaST
set_option linter.unusedSimpArgs false
set_option linter.unusedVariables false
set_option maxRecDepth 100000
noncomputable section
namespace Go.Ev.X
open Go Go.Ev
theorem rb12 : rowB 12 = true := by decide +kernel
theorem rb28 : rowB 28 = true := by decide +kernel
theorem rb44 : rowB 44 = true := by decide +kernel
theorem rb60 : rowB 60 = true := by decide +kernel
theorem rb76 : rowB 76 = true := by decide +kernel
theorem rb92 : rowB 92 = true := by decide +kernel
theorem rb108 : rowB 108 = true := by decide +kernel
theorem rb124 : rowB 124 = true := by decide +kernel
theorem rb140 : rowB 140 = true := by decide +kernel
theorem rb156 : rowB 156 = true := by decide +kernel
theorem rb172 : rowB 172 = true := by decide +kernel
theorem rb188 : rowB 188 = true := by decide +kernel
theorem rb204 : rowB 204 = true := by decide +kernel
theorem rb220 : rowB 220 = true := by decide +kernel
theorem rb236 : rowB 236 = true := by decide +kernel
theorem rb252 : rowB 252 = true := by decide +kernel
end Go.Ev.X
end
