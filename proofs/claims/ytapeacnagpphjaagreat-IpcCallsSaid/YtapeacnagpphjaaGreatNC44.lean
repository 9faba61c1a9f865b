/-
  What calls come to.
-/
import Derived.Test.YtapeacnagpphjaaGreatNH
set_option linter.unusedSimpArgs false
set_option linter.unusedVariables false
set_option maxRecDepth 100000
noncomputable section
namespace Go.Ev.X
open Go Go.Ev
theorem nt44 : nm44.run call1 ⟨flNn1, rrN⟩ = 0 := by decide +kernel
end Go.Ev.X
end
/-
  What calls come to.
-/
set_option linter.unusedSimpArgs false
set_option linter.unusedVariables false
set_option maxRecDepth 100000
noncomputable section
namespace Go.Ev.X
open Go Go.Ev
theorem nt45 : nm45.run call1 ⟨flN, rrN⟩ = 0 := by decide +kernel
theorem nt46 : nm46.run call1 ⟨flN, rrN⟩ = 0 := by decide +kernel
end Go.Ev.X
end
