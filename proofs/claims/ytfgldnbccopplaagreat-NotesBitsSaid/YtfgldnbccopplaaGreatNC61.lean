/-
  What calls come to.
-/
import Derived.Test.YtfgldnbccopplaaGreatNH
set_option linter.unusedSimpArgs false
set_option linter.unusedVariables false
set_option maxRecDepth 100000
noncomputable section
namespace Go.Ev.X
open Go Go.Ev
theorem nt61 : nm61.run call1 ⟨[], []⟩ = 0 := by decide +kernel
theorem no61 : ooBeq (nm61.h'.mk'.t.get .h) (nm61.h.mk'.t.get .h) = true := by decide +kernel
theorem nt62 : nm62.run call1 ⟨[], []⟩ = 0 := by decide +kernel
theorem no62 : ooBeq (nm62.h'.mk'.t.get .h) (nm62.h.mk'.t.get .h) = true := by decide +kernel
theorem nt63 : nm63.run call1 ⟨[], []⟩ = 0 := by decide +kernel
theorem no63 : ooBeq (nm63.h'.mk'.t.get .h) (nm63.h.mk'.t.get .h) = true := by decide +kernel
theorem nt64 : nm64.run call1 ⟨[], []⟩ = 0 := by decide +kernel
theorem no64 : ooBeq (nm64.h'.mk'.t.get .h) (nm64.h.mk'.t.get .h) = true := by decide +kernel
theorem nt65 : nm65.run call1 ⟨[], []⟩ = 0 := by decide +kernel
theorem no65 : ooBeq (nm65.h'.mk'.t.get .h) (nm65.h.mk'.t.get .h) = true := by decide +kernel
theorem nt66 : nm66.run call1 ⟨[], []⟩ = 0 := by decide +kernel
theorem no66 : ooBeq (nm66.h'.mk'.t.get .h) (nm66.h.mk'.t.get .h) = true := by decide +kernel
theorem nt67 : nm67.run call1 ⟨[], []⟩ = 0 := by decide +kernel
theorem no67 : ooBeq (nm67.h'.mk'.t.get .h) (nm67.h.mk'.t.get .h) = true := by decide +kernel
end Go.Ev.X
end
