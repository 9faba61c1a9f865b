/-
  What calls come to.
-/
import Derived.Test.YtapeacnagpphjaaGreatNH
set_option linter.unusedSimpArgs false
set_option linter.unusedVariables false
set_option maxRecDepth 100000
noncomputable section
namespace Go.Ev.X
open Go Go.Ev
theorem nt47 : nm47.run call1 ⟨flNn2, rrN⟩ = 0 := by decide +kernel
end Go.Ev.X
end
/-
  What calls come to.
-/
set_option linter.unusedSimpArgs false
set_option linter.unusedVariables false
set_option maxRecDepth 100000
noncomputable section
namespace Go.Ev.X
open Go Go.Ev
theorem nt48 : nm48.run call1 ⟨flN, rrN⟩ = 0 := by decide +kernel
theorem nt49 : nm49.run call1 ⟨flN, rrN⟩ = 0 := by decide +kernel
end Go.Ev.X
end
