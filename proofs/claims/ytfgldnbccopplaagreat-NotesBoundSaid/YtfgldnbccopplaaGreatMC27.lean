/-
  What calls come to.
-/
import Derived.Test.YtfgldnbccopplaaGreatMH
set_option linter.unusedSimpArgs false
set_option linter.unusedVariables false
set_option maxRecDepth 100000
noncomputable section
namespace Go.Ev.X
open Go Go.Ev
theorem mt27 : mm27.run call1 ⟨[], []⟩ = 0 := by decide +kernel
theorem mt28 : mm28.run call1 ⟨[], []⟩ = 0 := by decide +kernel
theorem mt29 : mm29.run call1 ⟨[], []⟩ = 0 := by decide +kernel
theorem mt30 : mm30.run call1 ⟨[], []⟩ = 0 := by decide +kernel
theorem mt31 : mm31.run call1 ⟨[], []⟩ = 0 := by decide +kernel
end Go.Ev.X
end
