/-
  What calls come to.
-/
import Derived.Test.YtfgldnbccopplaaGreatNH
set_option linter.unusedSimpArgs false
set_option linter.unusedVariables false
set_option maxRecDepth 100000
noncomputable section
namespace Go.Ev.X
open Go Go.Ev
theorem nt10 : nm10.run call1 ⟨[], []⟩ = 0 := by decide +kernel
theorem nt11 : nm11.run call1 ⟨[], []⟩ = 0 := by decide +kernel
theorem nt12 : nm12.run call1 ⟨[], []⟩ = 0 := by decide +kernel
theorem nt13 : nm13.run call1 ⟨[], []⟩ = 0 := by decide +kernel
theorem nt14 : nm14.run call1 ⟨[], []⟩ = 0 := by decide +kernel
theorem nt15 : nm15.run call1 ⟨[], []⟩ = 0 := by decide +kernel
end Go.Ev.X
end
