/-
  What calls come to.
-/
import Derived.Test.YtapeacnagpphjaaGreatMH
set_option linter.unusedSimpArgs false
set_option linter.unusedVariables false
set_option maxRecDepth 100000
noncomputable section
namespace Go.Ev.X
open Go Go.Ev
theorem mt68 : mm68.run call1 ⟨flM3, rrM⟩ = 0 := by decide +kernel
theorem mt69 : mm69.run call1 ⟨flM3, rrM⟩ = 0 := by decide +kernel
theorem mt70 : mm70.run call1 ⟨flM3, rrM⟩ = 0 := by decide +kernel
end Go.Ev.X
end
