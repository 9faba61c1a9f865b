/-
  What calls come to.
-/
import Derived.Test.YtfgldnbccopplaaGreatNH
set_option linter.unusedSimpArgs false
set_option linter.unusedVariables false
set_option maxRecDepth 100000
noncomputable section
namespace Go.Ev.X
open Go Go.Ev
theorem nt78 : nm78.run call1 ⟨fW, []⟩ = 0 := by decide +kernel
theorem no78 : ooBeq (nm78.h'.mk'.t.get .h) (nm78.h.mk'.t.get .h) = true := by decide +kernel
end Go.Ev.X
end
