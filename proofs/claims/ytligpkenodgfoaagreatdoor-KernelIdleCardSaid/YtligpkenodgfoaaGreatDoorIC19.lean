/-
  What calls come to.
-/
import Derived.Test.YtligpkenodgfoaaGreatDoorIH
set_option linter.unusedSimpArgs false
set_option linter.unusedVariables false
set_option maxRecDepth 100000
noncomputable section
namespace Go.Ev.X
open Go Go.Ev
theorem it19 : im19.run call1 ⟨[], []⟩ = 0 := by decide +kernel
theorem it20 : im20.run call1 ⟨[], []⟩ = 0 := by decide +kernel
theorem it21 : im21.run call1 ⟨[], []⟩ = 0 := by decide +kernel
theorem it22 : im22.run call1 ⟨[], []⟩ = 0 := by decide +kernel
end Go.Ev.X
end
