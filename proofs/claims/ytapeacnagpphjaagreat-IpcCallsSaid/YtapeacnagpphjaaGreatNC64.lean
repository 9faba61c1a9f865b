/-
  What calls come to.
-/
import Derived.Test.YtapeacnagpphjaaGreatNH
set_option linter.unusedSimpArgs false
set_option linter.unusedVariables false
set_option maxRecDepth 100000
noncomputable section
namespace Go.Ev.X
open Go Go.Ev
theorem nt64 : nm64.run call1 ⟨flNm2, rrN⟩ = 0 := by decide +kernel
theorem nt65 : nm65.run call1 ⟨flNm2, rrN⟩ = 0 := by decide +kernel
theorem nt66 : nm66.run call1 ⟨flNm2, rrN⟩ = 0 := by decide +kernel
theorem nt67 : nm67.run call1 ⟨flNm2, rrN⟩ = 0 := by decide +kernel
theorem nt68 : nm68.run call1 ⟨flNm2, rrN⟩ = 0 := by decide +kernel
end Go.Ev.X
end
