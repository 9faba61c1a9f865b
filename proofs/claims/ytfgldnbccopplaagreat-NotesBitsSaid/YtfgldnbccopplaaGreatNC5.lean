/-
  What calls come to.
-/
import Derived.Test.YtfgldnbccopplaaGreatNH
set_option linter.unusedSimpArgs false
set_option linter.unusedVariables false
set_option maxRecDepth 100000
noncomputable section
namespace Go.Ev.X
open Go Go.Ev
theorem nt5 : nm5.run call1 ⟨[], []⟩ = 0 := by decide +kernel
theorem nt6 : nm6.run call1 ⟨[], []⟩ = 0 := by decide +kernel
theorem nt7 : nm7.run call1 ⟨[], []⟩ = 0 := by decide +kernel
theorem nt8 : nm8.run call1 ⟨[], []⟩ = 0 := by decide +kernel
theorem nt9 : nm9.run call1 ⟨[], []⟩ = 0 := by decide +kernel
end Go.Ev.X
end
