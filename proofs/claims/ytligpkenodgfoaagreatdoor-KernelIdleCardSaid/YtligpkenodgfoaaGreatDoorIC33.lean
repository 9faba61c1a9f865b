/-
  What calls come to.
-/
import Derived.Test.YtligpkenodgfoaaGreatDoorIH
set_option linter.unusedSimpArgs false
set_option linter.unusedVariables false
set_option maxRecDepth 100000
noncomputable section
namespace Go.Ev.X
open Go Go.Ev
theorem it33 : im33.run call1 ⟨[], []⟩ = 0 := by decide +kernel
theorem it34 : im34.run call1 ⟨[], []⟩ = 0 := by decide +kernel
theorem it35 : im35.run call1 ⟨fc3, []⟩ = 0 := by decide +kernel
theorem it36 : im36.run call1 ⟨[], []⟩ = 0 := by decide +kernel
end Go.Ev.X
end
