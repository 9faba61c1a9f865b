/-
  What calls come to.
-/
import Derived.Test.YtfgldnbccopplaaGreatNH
set_option linter.unusedSimpArgs false
set_option linter.unusedVariables false
set_option maxRecDepth 100000
noncomputable section
namespace Go.Ev.X
open Go Go.Ev
theorem nt16 : nm16.run call1 ⟨[], []⟩ = 0 := by decide +kernel
theorem nt17 : nm17.run call1 ⟨[], []⟩ = 0 := by decide +kernel
theorem nt18 : nm18.run call1 ⟨[], []⟩ = 0 := by decide +kernel
theorem nt19 : nm19.run call1 ⟨[], []⟩ = 0 := by decide +kernel
theorem nt20 : nm20.run call1 ⟨[], []⟩ = 0 := by decide +kernel
end Go.Ev.X
end
