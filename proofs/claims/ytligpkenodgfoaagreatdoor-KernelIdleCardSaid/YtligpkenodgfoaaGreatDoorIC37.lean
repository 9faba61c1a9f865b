/-
  What calls come to.
-/
import Derived.Test.YtligpkenodgfoaaGreatDoorIH
set_option linter.unusedSimpArgs false
set_option linter.unusedVariables false
set_option maxRecDepth 100000
noncomputable section
namespace Go.Ev.X
open Go Go.Ev
theorem it37 : im37.run call1 ⟨[], []⟩ = 0 := by decide +kernel
theorem it38 : im38.run call1 ⟨[], []⟩ = 0 := by decide +kernel
theorem it39 : im39.run call1 ⟨[], []⟩ = 0 := by decide +kernel
theorem it40 : im40.run call1 ⟨fc4, []⟩ = 0 := by decide +kernel
theorem it41 : im41.run call1 ⟨fc5, []⟩ = 0 := by decide +kernel
end Go.Ev.X
end
