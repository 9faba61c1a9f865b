/-
  What calls come to.
-/
import Derived.Test.YtapeacnagpphjaaGreatNH
set_option linter.unusedSimpArgs false
set_option linter.unusedVariables false
set_option maxRecDepth 100000
noncomputable section
namespace Go.Ev.X
open Go Go.Ev
theorem nt79 : nm79.run call1 ⟨flNm4, rrN⟩ = 0 := by decide +kernel
theorem nt80 : nm80.run call1 ⟨flNm4, rrN⟩ = 0 := by decide +kernel
theorem nt81 : nm81.run call1 ⟨flNm4, rrN⟩ = 0 := by decide +kernel
theorem nt82 : nm82.run call1 ⟨flNm4, rrN⟩ = 0 := by decide +kernel
theorem nt83 : nm83.run call1 ⟨flNm4, rrN⟩ = 0 := by decide +kernel
theorem nt84 : nm84.run call1 ⟨flNm4, rrN⟩ = 0 := by decide +kernel
theorem nt85 : nm85.run call1 ⟨flNm4, rrN⟩ = 0 := by decide +kernel
end Go.Ev.X
end
