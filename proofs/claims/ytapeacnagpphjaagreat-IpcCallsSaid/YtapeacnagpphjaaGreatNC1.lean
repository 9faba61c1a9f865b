/-
  What calls come to.
-/
import Derived.Test.YtapeacnagpphjaaGreatNH
set_option linter.unusedSimpArgs false
set_option linter.unusedVariables false
set_option maxRecDepth 100000
noncomputable section
namespace Go.Ev.X
open Go Go.Ev
theorem nt1 : nm1.run call1 ⟨flN, rrN⟩ = 0 := by decide +kernel
theorem nt2 : nm2.run call1 ⟨flN, rrN⟩ = 0 := by decide +kernel
theorem nt3 : nm3.run call1 ⟨flN, rrN⟩ = 0 := by decide +kernel
theorem nt4 : nm4.run call1 ⟨flN, rrN⟩ = 0 := by decide +kernel
theorem nt5 : nm5.run call1 ⟨flN, rrN⟩ = 0 := by decide +kernel
theorem nt6 : nm6.run call1 ⟨flN, rrN⟩ = 0 := by decide +kernel
end Go.Ev.X
end
