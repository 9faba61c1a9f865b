/-
  What calls come to.
-/
import Derived.Test.YtfgldnbccopplaaGreatNH
set_option linter.unusedSimpArgs false
set_option linter.unusedVariables false
set_option maxRecDepth 100000
noncomputable section
namespace Go.Ev.X
open Go Go.Ev
theorem nt53 : nm53.run call1 ⟨fW, []⟩ = 0 := by decide +kernel
theorem no53 : ooBeq (nm53.h'.mk'.t.get .h) (nm53.h.mk'.t.get .h) = true := by decide +kernel
theorem nt54 : nm54.run call1 ⟨fW, []⟩ = 0 := by decide +kernel
theorem no54 : ooBeq (nm54.h'.mk'.t.get .h) (nm54.h.mk'.t.get .h) = true := by decide +kernel
theorem nt55 : nm55.run call1 ⟨fW, []⟩ = 0 := by decide +kernel
theorem no55 : ooBeq (nm55.h'.mk'.t.get .h) (nm55.h.mk'.t.get .h) = true := by decide +kernel
theorem nt56 : nm56.run call1 ⟨[], []⟩ = 0 := by decide +kernel
theorem no56 : ooBeq (nm56.h'.mk'.t.get .h) (nm56.h.mk'.t.get .h) = true := by decide +kernel
end Go.Ev.X
end
