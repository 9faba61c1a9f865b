/-
  What calls come to.
-/
import Derived.Test.YtapeacnagpphjaaGreatNH
set_option linter.unusedSimpArgs false
set_option linter.unusedVariables false
set_option maxRecDepth 100000
noncomputable section
namespace Go.Ev.X
open Go Go.Ev
theorem nt62 : nm62.run call1 ⟨flNm2, rrN⟩ = 0 := by decide +kernel
theorem nt63 : nm63.run call1 ⟨flNm2, rrN⟩ = 0 := by decide +kernel
end Go.Ev.X
end
