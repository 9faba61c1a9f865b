/-
  What calls come to.
-/
import Derived.Test.YtligpkenodgfoaaGreatDoorIH
set_option linter.unusedSimpArgs false
set_option linter.unusedVariables false
set_option maxRecDepth 100000
noncomputable section
namespace Go.Ev.X
open Go Go.Ev
theorem it31 : im31.run call1 ⟨[], []⟩ = 0 := by decide +kernel
theorem it32 : im32.run call1 ⟨[], []⟩ = 0 := by decide +kernel
end Go.Ev.X
end
