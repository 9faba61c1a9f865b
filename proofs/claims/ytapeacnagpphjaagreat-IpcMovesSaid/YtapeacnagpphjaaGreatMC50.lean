/-
  What calls come to.
-/
import Derived.Test.YtapeacnagpphjaaGreatMH
set_option linter.unusedSimpArgs false
set_option linter.unusedVariables false
set_option maxRecDepth 100000
noncomputable section
namespace Go.Ev.X
open Go Go.Ev
theorem mt50 : mm50.run call1 ⟨flM4, rrM⟩ = 0 := by decide +kernel
theorem mt51 : mm51.run call1 ⟨flM4, rrM⟩ = 0 := by decide +kernel
theorem mt52 : mm52.run call1 ⟨flM4, rrM⟩ = 0 := by decide +kernel
theorem mt53 : mm53.run call1 ⟨flM, rrM⟩ = 0 := by decide +kernel
theorem mt54 : mm54.run call1 ⟨flM, rrM⟩ = 0 := by decide +kernel
end Go.Ev.X
end
