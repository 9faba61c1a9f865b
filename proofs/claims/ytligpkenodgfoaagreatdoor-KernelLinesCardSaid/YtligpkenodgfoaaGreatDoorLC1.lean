/-
  What calls come to.
-/
import Derived.Test.YtligpkenodgfoaaGreatDoorLH
set_option linter.unusedSimpArgs false
set_option linter.unusedVariables false
set_option maxRecDepth 100000
noncomputable section
namespace Go.Ev.X
open Go Go.Ev
theorem lt1 : lm1.run call1 ⟨[], []⟩ = 0 := by decide +kernel
theorem lt2 : lm2.run call1 ⟨[], []⟩ = 0 := by decide +kernel
theorem lt3 : lm3.run call1 ⟨[], []⟩ = 0 := by decide +kernel
theorem lt4 : lm4.run call1 ⟨[], []⟩ = 0 := by decide +kernel
theorem lt5 : lm5.run call1 ⟨[], []⟩ = 0 := by decide +kernel
theorem lt6 : lm6.run call1 ⟨[], []⟩ = 0 := by decide +kernel
end Go.Ev.X
end
