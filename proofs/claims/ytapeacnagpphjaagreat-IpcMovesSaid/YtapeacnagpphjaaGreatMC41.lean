/-
  What calls come to.
-/
import Derived.Test.YtapeacnagpphjaaGreatMH
set_option linter.unusedSimpArgs false
set_option linter.unusedVariables false
set_option maxRecDepth 100000
noncomputable section
namespace Go.Ev.X
open Go Go.Ev
theorem mt41 : mm41.run call1 ⟨flM1, rrM⟩ = 0 := by decide +kernel
theorem mt42 : mm42.run call1 ⟨flM1, rrM⟩ = 0 := by decide +kernel
theorem mt43 : mm43.run call1 ⟨flM1, rrM⟩ = 0 := by decide +kernel
end Go.Ev.X
end
