/-
  What calls come to.
-/
import Derived.Test.YtapeacnagpphjaaGreatMH
set_option linter.unusedSimpArgs false
set_option linter.unusedVariables false
set_option maxRecDepth 100000
noncomputable section
namespace Go.Ev.X
open Go Go.Ev
theorem mt65 : mm65.run call1 ⟨flM2, rrM⟩ = 0 := by decide +kernel
theorem mt66 : mm66.run call1 ⟨flM2, rrM⟩ = 0 := by decide +kernel
theorem mt67 : mm67.run call1 ⟨flM2, rrM⟩ = 0 := by decide +kernel
end Go.Ev.X
end
