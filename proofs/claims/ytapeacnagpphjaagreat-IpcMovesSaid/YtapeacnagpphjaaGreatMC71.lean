/-
  What calls come to.
-/
import Derived.Test.YtapeacnagpphjaaGreatMH
set_option linter.unusedSimpArgs false
set_option linter.unusedVariables false
set_option maxRecDepth 100000
noncomputable section
namespace Go.Ev.X
open Go Go.Ev
theorem mt71 : mm71.run call1 ⟨flM4, rrM⟩ = 0 := by decide +kernel
theorem mt72 : mm72.run call1 ⟨flM4, rrM⟩ = 0 := by decide +kernel
theorem mt73 : mm73.run call1 ⟨flM4, rrM⟩ = 0 := by decide +kernel
end Go.Ev.X
end
