/-
  What calls come to.
-/
import Derived.Test.YtohbcccoemkmhaaGreatDoorGH
set_option linter.unusedSimpArgs false
set_option linter.unusedVariables false
set_option maxRecDepth 100000
noncomputable section
namespace Go.Ev.X
open Go Go.Ev
theorem gt7 : gm7.run call1 ⟨[], []⟩ = 0 := by decide +kernel
theorem gt8 : gm8.run call1 ⟨[], []⟩ = 0 := by decide +kernel
end Go.Ev.X
end
