/-
  Where the law begins.
-/
import Derived.Test.YtedbnfdmeigabaaGreatAB
set_option linter.unusedSimpArgs false
set_option linter.unusedVariables false
set_option maxRecDepth 100000
noncomputable section
namespace Go.Ev.X
open Go Go.Ev
theorem gbt : gb.run call1 ⟨[], []⟩ = 0 := by decide +kernel
theorem gbo : ooBeq (gb.h'.mk'.t.get .h) (gb.h.mk'.t.get .h) = true := by kernel_rfl
end Go.Ev.X
end
