/-
  What calls come to.
-/
import Derived.Test.YtapeacnagpphjaaGreatNH
set_option linter.unusedSimpArgs false
set_option linter.unusedVariables false
set_option maxRecDepth 100000
noncomputable section
namespace Go.Ev.X
open Go Go.Ev
theorem nt53 : nm53.run call1 ⟨flNn4, rrN⟩ = 0 := by decide +kernel
end Go.Ev.X
end
/-
  What calls come to.
-/
set_option linter.unusedSimpArgs false
set_option linter.unusedVariables false
set_option maxRecDepth 100000
noncomputable section
namespace Go.Ev.X
open Go Go.Ev
theorem nt54 : nm54.run call1 ⟨flN, rrN⟩ = 0 := by decide +kernel
theorem nt55 : nm55.run call1 ⟨flN, rrN⟩ = 0 := by decide +kernel
theorem nt56 : nm56.run call1 ⟨flNm1, rrN⟩ = 0 := by decide +kernel
end Go.Ev.X
end
