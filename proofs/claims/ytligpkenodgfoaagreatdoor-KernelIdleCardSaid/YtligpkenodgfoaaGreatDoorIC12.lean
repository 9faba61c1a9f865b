/-
  What calls come to.
-/
import Derived.Test.YtligpkenodgfoaaGreatDoorIH
set_option linter.unusedSimpArgs false
set_option linter.unusedVariables false
set_option maxRecDepth 100000
noncomputable section
namespace Go.Ev.X
open Go Go.Ev
theorem it12 : im12.run call1 ⟨[], []⟩ = 0 := by decide +kernel
theorem it13 : im13.run call1 ⟨[], []⟩ = 0 := by decide +kernel
theorem it14 : im14.run call1 ⟨[], []⟩ = 0 := by decide +kernel
theorem it15 : im15.run call1 ⟨[], []⟩ = 0 := by decide +kernel
theorem it16 : im16.run call1 ⟨[], []⟩ = 0 := by decide +kernel
theorem it17 : im17.run call1 ⟨[], []⟩ = 0 := by decide +kernel
theorem it18 : im18.run call1 ⟨[], []⟩ = 0 := by decide +kernel
end Go.Ev.X
end
