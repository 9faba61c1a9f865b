/-
  What calls come to.
-/
import Derived.Test.YtapeacnagpphjaaGreatNH
set_option linter.unusedSimpArgs false
set_option linter.unusedVariables false
set_option maxRecDepth 100000
noncomputable section
namespace Go.Ev.X
open Go Go.Ev
theorem nt69 : nm69.run call1 ⟨flNm3, rrN⟩ = 0 := by decide +kernel
theorem nt70 : nm70.run call1 ⟨flNm3, rrN⟩ = 0 := by decide +kernel
end Go.Ev.X
end
