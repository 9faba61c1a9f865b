/-
  What calls come to.
-/
import Derived.Test.YtfgldnbccopplaaGreatNH
set_option linter.unusedSimpArgs false
set_option linter.unusedVariables false
set_option maxRecDepth 100000
noncomputable section
namespace Go.Ev.X
open Go Go.Ev
theorem nt21 : nm21.run call1 ⟨[], []⟩ = 0 := by decide +kernel
theorem nt22 : nm22.run call1 ⟨[], []⟩ = 0 := by decide +kernel
theorem nt23 : nm23.run call1 ⟨[], []⟩ = 0 := by decide +kernel
theorem nt24 : nm24.run call1 ⟨[], []⟩ = 0 := by decide +kernel
end Go.Ev.X
end
