/-
  What calls come to.
-/
import Derived.Test.YtfgldnbccopplaaGreatNH
set_option linter.unusedSimpArgs false
set_option linter.unusedVariables false
set_option maxRecDepth 100000
noncomputable section
namespace Go.Ev.X
open Go Go.Ev
theorem nt25 : nm25.run call1 ⟨[], []⟩ = 0 := by decide +kernel
theorem no25 : ooBeq (nm25.h'.mk'.t.get .h) (nm25.h.mk'.t.get .h) = true := by decide +kernel
end Go.Ev.X
end
