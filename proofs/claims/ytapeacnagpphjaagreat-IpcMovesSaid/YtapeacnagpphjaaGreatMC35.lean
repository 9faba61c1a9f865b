/-
  What calls come to.
-/
import Derived.Test.YtapeacnagpphjaaGreatMH
set_option linter.unusedSimpArgs false
set_option linter.unusedVariables false
set_option maxRecDepth 100000
noncomputable section
namespace Go.Ev.X
open Go Go.Ev
theorem mt35 : mm35.run call1 ⟨flM, rrM⟩ = 0 := by decide +kernel
theorem mt36 : mm36.run call1 ⟨flM, rrM⟩ = 0 := by decide +kernel
theorem mt37 : mm37.run call1 ⟨flM, rrM⟩ = 0 := by decide +kernel
end Go.Ev.X
end
