/-
  What calls come to.
-/
import Derived.Test.YtapeacnagpphjaaGreatNH
set_option linter.unusedSimpArgs false
set_option linter.unusedVariables false
set_option maxRecDepth 100000
noncomputable section
namespace Go.Ev.X
open Go Go.Ev
theorem nt57 : nm57.run call1 ⟨flNm1, rrN⟩ = 0 := by decide +kernel
theorem nt58 : nm58.run call1 ⟨flNm1, rrN⟩ = 0 := by decide +kernel
theorem nt59 : nm59.run call1 ⟨flNm1, rrN⟩ = 0 := by decide +kernel
theorem nt60 : nm60.run call1 ⟨flNm1, rrN⟩ = 0 := by decide +kernel
theorem nt61 : nm61.run call1 ⟨flNm1, rrN⟩ = 0 := by decide +kernel
end Go.Ev.X
end
