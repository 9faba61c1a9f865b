/-
  What calls come to.
-/
import Derived.Test.YtfgldnbccopplaaGreatMH
set_option linter.unusedSimpArgs false
set_option linter.unusedVariables false
set_option maxRecDepth 100000
noncomputable section
namespace Go.Ev.X
open Go Go.Ev
theorem mt9 : mm9.run call1 ⟨[], []⟩ = 0 := by decide +kernel
theorem mt10 : mm10.run call1 ⟨[], []⟩ = 0 := by decide +kernel
theorem mt11 : mm11.run call1 ⟨[], []⟩ = 0 := by decide +kernel
theorem mt12 : mm12.run call1 ⟨[], []⟩ = 0 := by decide +kernel
end Go.Ev.X
end
