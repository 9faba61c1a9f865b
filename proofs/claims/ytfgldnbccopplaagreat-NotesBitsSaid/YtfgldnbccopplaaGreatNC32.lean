/-
  What calls come to.
-/
import Derived.Test.YtfgldnbccopplaaGreatNH
set_option linter.unusedSimpArgs false
set_option linter.unusedVariables false
set_option maxRecDepth 100000
noncomputable section
namespace Go.Ev.X
open Go Go.Ev
theorem nt32 : nm32.run call1 ⟨[], []⟩ = 0 := by decide +kernel
theorem no32 : ooBeq (nm32.h'.mk'.t.get .h) (nm32.h.mk'.t.get .h) = true := by decide +kernel
theorem nt33 : nm33.run call1 ⟨[], []⟩ = 0 := by decide +kernel
theorem no33 : ooBeq (nm33.h'.mk'.t.get .h) (nm33.h.mk'.t.get .h) = true := by decide +kernel
theorem nt34 : nm34.run call1 ⟨[], []⟩ = 0 := by decide +kernel
theorem no34 : ooBeq (nm34.h'.mk'.t.get .h) (nm34.h.mk'.t.get .h) = true := by decide +kernel
theorem nt35 : nm35.run call1 ⟨[], []⟩ = 0 := by decide +kernel
theorem no35 : ooBeq (nm35.h'.mk'.t.get .h) (nm35.h.mk'.t.get .h) = true := by decide +kernel
theorem nt36 : nm36.run call1 ⟨[], []⟩ = 0 := by decide +kernel
theorem no36 : ooBeq (nm36.h'.mk'.t.get .h) (nm36.h.mk'.t.get .h) = true := by decide +kernel
end Go.Ev.X
end
