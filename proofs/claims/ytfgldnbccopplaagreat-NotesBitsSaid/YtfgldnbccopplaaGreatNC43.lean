/-
  What calls come to.
-/
import Derived.Test.YtfgldnbccopplaaGreatNH
set_option linter.unusedSimpArgs false
set_option linter.unusedVariables false
set_option maxRecDepth 100000
noncomputable section
namespace Go.Ev.X
open Go Go.Ev
theorem nt43 : nm43.run call1 ⟨[], []⟩ = 0 := by decide +kernel
theorem no43 : ooBeq (nm43.h'.mk'.t.get .h) (nm43.h.mk'.t.get .h) = true := by decide +kernel
theorem nt44 : nm44.run call1 ⟨[], []⟩ = 0 := by decide +kernel
theorem no44 : ooBeq (nm44.h'.mk'.t.get .h) (nm44.h.mk'.t.get .h) = true := by decide +kernel
theorem nt45 : nm45.run call1 ⟨[], []⟩ = 0 := by decide +kernel
theorem no45 : ooBeq (nm45.h'.mk'.t.get .h) (nm45.h.mk'.t.get .h) = true := by decide +kernel
theorem nt46 : nm46.run call1 ⟨fW, []⟩ = 0 := by decide +kernel
theorem no46 : ooBeq (nm46.h'.mk'.t.get .h) (nm46.h.mk'.t.get .h) = true := by decide +kernel
end Go.Ev.X
end
