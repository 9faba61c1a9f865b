/-
  What calls come to.
-/
import Derived.Test.YtligpkenodgfoaaGreatDoorLH
set_option linter.unusedSimpArgs false
set_option linter.unusedVariables false
set_option maxRecDepth 100000
noncomputable section
namespace Go.Ev.X
open Go Go.Ev
theorem lt12 : lm12.run call1 ⟨[], []⟩ = 0 := by decide +kernel
theorem lt13 : lm13.run call1 ⟨[], []⟩ = 0 := by decide +kernel
theorem lt14 : lm14.run call1 ⟨[], []⟩ = 0 := by decide +kernel
theorem lt15 : lm15.run call1 ⟨[], []⟩ = 0 := by decide +kernel
theorem lt16 : lm16.run call1 ⟨[], []⟩ = 0 := by decide +kernel
theorem lt17 : lm17.run call1 ⟨[], []⟩ = 0 := by decide +kernel
theorem lt18 : lm18.run call1 ⟨[], []⟩ = 0 := by decide +kernel
end Go.Ev.X
end
