/-
  What calls come to.
-/
import Derived.Test.YtfgldnbccopplaaGreatNH
set_option linter.unusedSimpArgs false
set_option linter.unusedVariables false
set_option maxRecDepth 100000
noncomputable section
namespace Go.Ev.X
open Go Go.Ev
theorem nt47 : nm47.run call1 ⟨fW, []⟩ = 0 := by decide +kernel
theorem no47 : ooBeq (nm47.h'.mk'.t.get .h) (nm47.h.mk'.t.get .h) = true := by decide +kernel
theorem nt48 : nm48.run call1 ⟨fW, []⟩ = 0 := by decide +kernel
theorem no48 : ooBeq (nm48.h'.mk'.t.get .h) (nm48.h.mk'.t.get .h) = true := by decide +kernel
theorem nt49 : nm49.run call1 ⟨fW, []⟩ = 0 := by decide +kernel
theorem no49 : ooBeq (nm49.h'.mk'.t.get .h) (nm49.h.mk'.t.get .h) = true := by decide +kernel
theorem nt50 : nm50.run call1 ⟨fW, []⟩ = 0 := by decide +kernel
theorem no50 : ooBeq (nm50.h'.mk'.t.get .h) (nm50.h.mk'.t.get .h) = true := by decide +kernel
theorem nt51 : nm51.run call1 ⟨fW, []⟩ = 0 := by decide +kernel
theorem no51 : ooBeq (nm51.h'.mk'.t.get .h) (nm51.h.mk'.t.get .h) = true := by decide +kernel
theorem nt52 : nm52.run call1 ⟨fW, []⟩ = 0 := by decide +kernel
theorem no52 : ooBeq (nm52.h'.mk'.t.get .h) (nm52.h.mk'.t.get .h) = true := by decide +kernel
end Go.Ev.X
end
