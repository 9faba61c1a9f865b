/-
  What calls come to.
-/
import Derived.Test.YtfgldnbccopplaaGreatNH
set_option linter.unusedSimpArgs false
set_option linter.unusedVariables false
set_option maxRecDepth 100000
noncomputable section
namespace Go.Ev.X
open Go Go.Ev
theorem nt73 : nm73.run call1 ⟨fW, []⟩ = 0 := by decide +kernel
theorem no73 : ooBeq (nm73.h'.mk'.t.get .h) (nm73.h.mk'.t.get .h) = true := by decide +kernel
theorem nt74 : nm74.run call1 ⟨fW, []⟩ = 0 := by decide +kernel
theorem no74 : ooBeq (nm74.h'.mk'.t.get .h) (nm74.h.mk'.t.get .h) = true := by decide +kernel
theorem nt75 : nm75.run call1 ⟨fW, []⟩ = 0 := by decide +kernel
theorem no75 : ooBeq (nm75.h'.mk'.t.get .h) (nm75.h.mk'.t.get .h) = true := by decide +kernel
theorem nt76 : nm76.run call1 ⟨fW, []⟩ = 0 := by decide +kernel
theorem no76 : ooBeq (nm76.h'.mk'.t.get .h) (nm76.h.mk'.t.get .h) = true := by decide +kernel
theorem nt77 : nm77.run call1 ⟨fW, []⟩ = 0 := by decide +kernel
theorem no77 : ooBeq (nm77.h'.mk'.t.get .h) (nm77.h.mk'.t.get .h) = true := by decide +kernel
end Go.Ev.X
end
