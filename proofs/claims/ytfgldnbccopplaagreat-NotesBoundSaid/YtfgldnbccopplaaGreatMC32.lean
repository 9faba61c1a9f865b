/-
  What calls come to.
-/
import Derived.Test.YtfgldnbccopplaaGreatMH
set_option linter.unusedSimpArgs false
set_option linter.unusedVariables false
set_option maxRecDepth 100000
noncomputable section
namespace Go.Ev.X
open Go Go.Ev
theorem mt32 : mm32.run call1 ⟨[], []⟩ = 0 := by decide +kernel
theorem mt33 : mm33.run call1 ⟨[], []⟩ = 0 := by decide +kernel
theorem mt34 : mm34.run call1 ⟨[], []⟩ = 0 := by decide +kernel
theorem mt35 : mm35.run call1 ⟨[], []⟩ = 0 := by decide +kernel
theorem mt36 : mm36.run call1 ⟨[], []⟩ = 0 := by decide +kernel
end Go.Ev.X
end
