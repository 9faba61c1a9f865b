/-
  What calls come to.
-/
import Derived.Test.YtligpkenodgfoaaGreatDoorIH
set_option linter.unusedSimpArgs false
set_option linter.unusedVariables false
set_option maxRecDepth 100000
noncomputable section
namespace Go.Ev.X
open Go Go.Ev
theorem it27 : im27.run call1 ⟨[], []⟩ = 0 := by decide +kernel
theorem it28 : im28.run call1 ⟨[], []⟩ = 0 := by decide +kernel
theorem it29 : im29.run call1 ⟨[], []⟩ = 0 := by decide +kernel
theorem it30 : im30.run call1 ⟨fc2, []⟩ = 0 := by decide +kernel
end Go.Ev.X
end
