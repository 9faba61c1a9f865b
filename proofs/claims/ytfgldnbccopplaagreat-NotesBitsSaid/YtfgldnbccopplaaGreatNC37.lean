/-
  What calls come to.
-/
import Derived.Test.YtfgldnbccopplaaGreatNH
set_option linter.unusedSimpArgs false
set_option linter.unusedVariables false
set_option maxRecDepth 100000
noncomputable section
namespace Go.Ev.X
open Go Go.Ev
theorem nt37 : nm37.run call1 ⟨[], []⟩ = 0 := by decide +kernel
theorem no37 : ooBeq (nm37.h'.mk'.t.get .h) (nm37.h.mk'.t.get .h) = true := by decide +kernel
theorem nt38 : nm38.run call1 ⟨[], []⟩ = 0 := by decide +kernel
theorem no38 : ooBeq (nm38.h'.mk'.t.get .h) (nm38.h.mk'.t.get .h) = true := by decide +kernel
theorem nt39 : nm39.run call1 ⟨[], []⟩ = 0 := by decide +kernel
theorem no39 : ooBeq (nm39.h'.mk'.t.get .h) (nm39.h.mk'.t.get .h) = true := by decide +kernel
theorem nt40 : nm40.run call1 ⟨[], []⟩ = 0 := by decide +kernel
theorem no40 : ooBeq (nm40.h'.mk'.t.get .h) (nm40.h.mk'.t.get .h) = true := by decide +kernel
theorem nt41 : nm41.run call1 ⟨[], []⟩ = 0 := by decide +kernel
theorem no41 : ooBeq (nm41.h'.mk'.t.get .h) (nm41.h.mk'.t.get .h) = true := by decide +kernel
theorem nt42 : nm42.run call1 ⟨[], []⟩ = 0 := by decide +kernel
theorem no42 : ooBeq (nm42.h'.mk'.t.get .h) (nm42.h.mk'.t.get .h) = true := by decide +kernel
end Go.Ev.X
end
