/-
  What calls come to.
-/
import Derived.Test.YtapeacnagpphjaaGreatNH
set_option linter.unusedSimpArgs false
set_option linter.unusedVariables false
set_option maxRecDepth 100000
noncomputable section
namespace Go.Ev.X
open Go Go.Ev
theorem nt22 : nm22.run call1 ⟨flNm0, rrN⟩ = 0 := by decide +kernel
theorem nt23 : nm23.run call1 ⟨flNm0, rrN⟩ = 0 := by decide +kernel
end Go.Ev.X
end
