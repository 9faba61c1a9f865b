/-
  What calls come to.
-/
import Derived.Test.YtligpkenodgfoaaGreatDoorLH
set_option linter.unusedSimpArgs false
set_option linter.unusedVariables false
set_option maxRecDepth 100000
noncomputable section
namespace Go.Ev.X
open Go Go.Ev
theorem lt19 : lm19.run call1 ⟨[], []⟩ = 0 := by decide +kernel
theorem lt20 : lm20.run call1 ⟨[], []⟩ = 0 := by decide +kernel
theorem lt21 : lm21.run call1 ⟨[], []⟩ = 0 := by decide +kernel
theorem lt22 : lm22.run call1 ⟨[], []⟩ = 0 := by decide +kernel
end Go.Ev.X
end
