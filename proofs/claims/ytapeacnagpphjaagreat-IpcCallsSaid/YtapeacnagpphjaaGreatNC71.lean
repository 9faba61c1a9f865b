/-
  What calls come to.
-/
import Derived.Test.YtapeacnagpphjaaGreatNH
set_option linter.unusedSimpArgs false
set_option linter.unusedVariables false
set_option maxRecDepth 100000
noncomputable section
namespace Go.Ev.X
open Go Go.Ev
theorem nt71 : nm71.run call1 ⟨flNm3, rrN⟩ = 0 := by decide +kernel
theorem nt72 : nm72.run call1 ⟨flNm3, rrN⟩ = 0 := by decide +kernel
theorem nt73 : nm73.run call1 ⟨flNm3, rrN⟩ = 0 := by decide +kernel
theorem nt74 : nm74.run call1 ⟨flNm3, rrN⟩ = 0 := by decide +kernel
theorem nt75 : nm75.run call1 ⟨flNm3, rrN⟩ = 0 := by decide +kernel
theorem nt76 : nm76.run call1 ⟨flNm3, rrN⟩ = 0 := by decide +kernel
end Go.Ev.X
end
