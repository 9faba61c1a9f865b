/-
  What calls come to.
-/
import Derived.Test.YtapeacnagpphjaaGreatMH
set_option linter.unusedSimpArgs false
set_option linter.unusedVariables false
set_option maxRecDepth 100000
noncomputable section
namespace Go.Ev.X
open Go Go.Ev
theorem mt38 : mm38.run call1 ⟨flM0, rrM⟩ = 0 := by decide +kernel
theorem mt39 : mm39.run call1 ⟨flM0, rrM⟩ = 0 := by decide +kernel
theorem mt40 : mm40.run call1 ⟨flM0, rrM⟩ = 0 := by decide +kernel
end Go.Ev.X
end
