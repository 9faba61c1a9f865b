/-
  What calls come to.
-/
import Derived.Test.YtapeacnagpphjaaGreatMH
set_option linter.unusedSimpArgs false
set_option linter.unusedVariables false
set_option maxRecDepth 100000
noncomputable section
namespace Go.Ev.X
open Go Go.Ev
theorem mt55 : mm55.run call1 ⟨flM, rrM⟩ = 0 := by decide +kernel
theorem mt56 : mm56.run call1 ⟨flM, rrM⟩ = 0 := by decide +kernel
theorem mt57 : mm57.run call1 ⟨flM, rrM⟩ = 0 := by decide +kernel
end Go.Ev.X
end
