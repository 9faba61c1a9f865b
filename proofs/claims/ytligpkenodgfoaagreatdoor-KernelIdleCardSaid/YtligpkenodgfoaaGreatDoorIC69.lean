/-
  What calls come to.
-/
import Derived.Test.YtligpkenodgfoaaGreatDoorIH
set_option linter.unusedSimpArgs false
set_option linter.unusedVariables false
set_option maxRecDepth 100000
noncomputable section
namespace Go.Ev.X
open Go Go.Ev
theorem it69 : im69.run call1 ⟨fc25, []⟩ = 0 := by decide +kernel
theorem it70 : im70.run call1 ⟨fc26, []⟩ = 0 := by decide +kernel
theorem it71 : im71.run call1 ⟨fc27, []⟩ = 0 := by decide +kernel
theorem it72 : im72.run call1 ⟨fc28, []⟩ = 0 := by decide +kernel
theorem it73 : im73.run call1 ⟨fc29, []⟩ = 0 := by decide +kernel
end Go.Ev.X
end
