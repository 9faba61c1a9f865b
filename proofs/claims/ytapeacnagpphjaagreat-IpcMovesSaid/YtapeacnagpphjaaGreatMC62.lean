/-
  What calls come to.
-/
import Derived.Test.YtapeacnagpphjaaGreatMH
set_option linter.unusedSimpArgs false
set_option linter.unusedVariables false
set_option maxRecDepth 100000
noncomputable section
namespace Go.Ev.X
open Go Go.Ev
theorem mt62 : mm62.run call1 ⟨flM1, rrM⟩ = 0 := by decide +kernel
theorem mt63 : mm63.run call1 ⟨flM1, rrM⟩ = 0 := by decide +kernel
theorem mt64 : mm64.run call1 ⟨flM1, rrM⟩ = 0 := by decide +kernel
end Go.Ev.X
end
