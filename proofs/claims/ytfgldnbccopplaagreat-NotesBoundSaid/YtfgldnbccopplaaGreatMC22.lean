/-
  What calls come to.
-/
import Derived.Test.YtfgldnbccopplaaGreatMH
set_option linter.unusedSimpArgs false
set_option linter.unusedVariables false
set_option maxRecDepth 100000
noncomputable section
namespace Go.Ev.X
open Go Go.Ev
theorem mt22 : mm22.run call1 ⟨[], []⟩ = 0 := by decide +kernel
theorem mt23 : mm23.run call1 ⟨[], []⟩ = 0 := by decide +kernel
theorem mt24 : mm24.run call1 ⟨[], []⟩ = 0 := by decide +kernel
theorem mt25 : mm25.run call1 ⟨[], []⟩ = 0 := by decide +kernel
theorem mt26 : mm26.run call1 ⟨[], []⟩ = 0 := by decide +kernel
end Go.Ev.X
end
