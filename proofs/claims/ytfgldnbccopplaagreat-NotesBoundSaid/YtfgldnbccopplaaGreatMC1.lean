/-
  What calls come to.
-/
import Derived.Test.YtfgldnbccopplaaGreatMH
set_option linter.unusedSimpArgs false
set_option linter.unusedVariables false
set_option maxRecDepth 100000
noncomputable section
namespace Go.Ev.X
open Go Go.Ev
theorem mt1 : mm1.run call1 ⟨[], []⟩ = 0 := by decide +kernel
theorem mt2 : mm2.run call1 ⟨[], []⟩ = 0 := by decide +kernel
theorem mt3 : mm3.run call1 ⟨[], []⟩ = 0 := by decide +kernel
theorem mt4 : mm4.run call1 ⟨[], []⟩ = 0 := by decide +kernel
end Go.Ev.X
end
