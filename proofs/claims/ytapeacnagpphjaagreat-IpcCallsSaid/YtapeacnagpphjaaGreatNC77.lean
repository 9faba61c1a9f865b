/-
  What calls come to.
-/
import Derived.Test.YtapeacnagpphjaaGreatNH
set_option linter.unusedSimpArgs false
set_option linter.unusedVariables false
set_option maxRecDepth 100000
noncomputable section
namespace Go.Ev.X
open Go Go.Ev
theorem nt77 : nm77.run call1 ⟨flNm4, rrN⟩ = 0 := by decide +kernel
theorem nt78 : nm78.run call1 ⟨flNm4, rrN⟩ = 0 := by decide +kernel
end Go.Ev.X
end
