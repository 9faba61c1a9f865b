/-
  What calls come to.
-/
import Derived.Test.YtligpkenodgfoaaGreatDoorLH
set_option linter.unusedSimpArgs false
set_option linter.unusedVariables false
set_option maxRecDepth 100000
noncomputable section
namespace Go.Ev.X
open Go Go.Ev
theorem lt7 : lm7.run call1 ⟨[], []⟩ = 0 := by decide +kernel
theorem lt8 : lm8.run call1 ⟨[], []⟩ = 0 := by decide +kernel
theorem lt9 : lm9.run call1 ⟨[], []⟩ = 0 := by decide +kernel
theorem lt10 : lm10.run call1 ⟨[], []⟩ = 0 := by decide +kernel
end Go.Ev.X
end
