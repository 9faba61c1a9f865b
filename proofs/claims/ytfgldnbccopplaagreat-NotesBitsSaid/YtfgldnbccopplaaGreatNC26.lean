/-
  What calls come to.
-/
import Derived.Test.YtfgldnbccopplaaGreatNH
set_option linter.unusedSimpArgs false
set_option linter.unusedVariables false
set_option maxRecDepth 100000
noncomputable section
namespace Go.Ev.X
open Go Go.Ev
theorem nt26 : nm26.run call1 ⟨[], []⟩ = 0 := by decide +kernel
theorem no26 : ooBeq (nm26.h'.mk'.t.get .h) (nm26.h.mk'.t.get .h) = true := by decide +kernel
theorem nt27 : nm27.run call1 ⟨[], []⟩ = 0 := by decide +kernel
theorem no27 : ooBeq (nm27.h'.mk'.t.get .h) (nm27.h.mk'.t.get .h) = true := by decide +kernel
theorem nt28 : nm28.run call1 ⟨[], []⟩ = 0 := by decide +kernel
theorem no28 : ooBeq (nm28.h'.mk'.t.get .h) (nm28.h.mk'.t.get .h) = true := by decide +kernel
theorem nt29 : nm29.run call1 ⟨[], []⟩ = 0 := by decide +kernel
theorem no29 : ooBeq (nm29.h'.mk'.t.get .h) (nm29.h.mk'.t.get .h) = true := by decide +kernel
theorem nt30 : nm30.run call1 ⟨[], []⟩ = 0 := by decide +kernel
theorem no30 : ooBeq (nm30.h'.mk'.t.get .h) (nm30.h.mk'.t.get .h) = true := by decide +kernel
theorem nt31 : nm31.run call1 ⟨[], []⟩ = 0 := by decide +kernel
theorem no31 : ooBeq (nm31.h'.mk'.t.get .h) (nm31.h.mk'.t.get .h) = true := by decide +kernel
end Go.Ev.X
end
