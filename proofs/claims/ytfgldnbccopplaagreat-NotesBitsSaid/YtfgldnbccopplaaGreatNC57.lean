/-
  What calls come to.
-/
import Derived.Test.YtfgldnbccopplaaGreatNH
set_option linter.unusedSimpArgs false
set_option linter.unusedVariables false
set_option maxRecDepth 100000
noncomputable section
namespace Go.Ev.X
open Go Go.Ev
theorem nt57 : nm57.run call1 ⟨[], []⟩ = 0 := by decide +kernel
theorem no57 : ooBeq (nm57.h'.mk'.t.get .h) (nm57.h.mk'.t.get .h) = true := by decide +kernel
theorem nt58 : nm58.run call1 ⟨[], []⟩ = 0 := by decide +kernel
theorem no58 : ooBeq (nm58.h'.mk'.t.get .h) (nm58.h.mk'.t.get .h) = true := by decide +kernel
theorem nt59 : nm59.run call1 ⟨[], []⟩ = 0 := by decide +kernel
theorem no59 : ooBeq (nm59.h'.mk'.t.get .h) (nm59.h.mk'.t.get .h) = true := by decide +kernel
theorem nt60 : nm60.run call1 ⟨[], []⟩ = 0 := by decide +kernel
theorem no60 : ooBeq (nm60.h'.mk'.t.get .h) (nm60.h.mk'.t.get .h) = true := by decide +kernel
end Go.Ev.X
end
