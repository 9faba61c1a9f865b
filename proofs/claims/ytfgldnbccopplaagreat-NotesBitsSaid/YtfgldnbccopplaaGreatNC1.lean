/-
  What calls come to.
-/
import Derived.Test.YtfgldnbccopplaaGreatNH
set_option linter.unusedSimpArgs false
set_option linter.unusedVariables false
set_option maxRecDepth 100000
noncomputable section
namespace Go.Ev.X
open Go Go.Ev
theorem nt1 : nm1.run call1 ⟨[], []⟩ = 0 := by decide +kernel
theorem nt2 : nm2.run call1 ⟨[], []⟩ = 0 := by decide +kernel
theorem nt3 : nm3.run call1 ⟨[], []⟩ = 0 := by decide +kernel
theorem nt4 : nm4.run call1 ⟨[], []⟩ = 0 := by decide +kernel
end Go.Ev.X
end
