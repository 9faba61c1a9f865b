/-
  What calls come to.
-/
import Derived.Test.YtfgldnbccopplaaGreatNH
set_option linter.unusedSimpArgs false
set_option linter.unusedVariables false
set_option maxRecDepth 100000
noncomputable section
namespace Go.Ev.X
open Go Go.Ev
theorem nt68 : nm68.run call1 ⟨[], []⟩ = 0 := by decide +kernel
theorem no68 : ooBeq (nm68.h'.mk'.t.get .h) (nm68.h.mk'.t.get .h) = true := by decide +kernel
theorem nt69 : nm69.run call1 ⟨fW, []⟩ = 0 := by decide +kernel
theorem no69 : ooBeq (nm69.h'.mk'.t.get .h) (nm69.h.mk'.t.get .h) = true := by decide +kernel
theorem nt70 : nm70.run call1 ⟨fW, []⟩ = 0 := by decide +kernel
theorem no70 : ooBeq (nm70.h'.mk'.t.get .h) (nm70.h.mk'.t.get .h) = true := by decide +kernel
theorem nt71 : nm71.run call1 ⟨fW, []⟩ = 0 := by decide +kernel
theorem no71 : ooBeq (nm71.h'.mk'.t.get .h) (nm71.h.mk'.t.get .h) = true := by decide +kernel
theorem nt72 : nm72.run call1 ⟨fW, []⟩ = 0 := by decide +kernel
theorem no72 : ooBeq (nm72.h'.mk'.t.get .h) (nm72.h.mk'.t.get .h) = true := by decide +kernel
end Go.Ev.X
end
