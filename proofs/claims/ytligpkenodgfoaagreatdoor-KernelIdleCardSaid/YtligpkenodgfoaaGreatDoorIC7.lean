/-
  What calls come to.
-/
import Derived.Test.YtligpkenodgfoaaGreatDoorIH
set_option linter.unusedSimpArgs false
set_option linter.unusedVariables false
set_option maxRecDepth 100000
noncomputable section
namespace Go.Ev.X
open Go Go.Ev
theorem it7 : im7.run call1 ⟨[], []⟩ = 0 := by decide +kernel
theorem it8 : im8.run call1 ⟨[], []⟩ = 0 := by decide +kernel
theorem it9 : im9.run call1 ⟨[], []⟩ = 0 := by decide +kernel
theorem it10 : im10.run call1 ⟨[], []⟩ = 0 := by decide +kernel
end Go.Ev.X
end
