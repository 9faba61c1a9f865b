/-
  What calls come to.
-/
import Derived.Test.YtfgldnbccopplaaGreatMH
set_option linter.unusedSimpArgs false
set_option linter.unusedVariables false
set_option maxRecDepth 100000
noncomputable section
namespace Go.Ev.X
open Go Go.Ev
theorem mt17 : mm17.run call1 ⟨[], []⟩ = 0 := by decide +kernel
theorem mt18 : mm18.run call1 ⟨[], []⟩ = 0 := by decide +kernel
theorem mt19 : mm19.run call1 ⟨[], []⟩ = 0 := by decide +kernel
theorem mt20 : mm20.run call1 ⟨[], []⟩ = 0 := by decide +kernel
theorem mt21 : mm21.run call1 ⟨[], []⟩ = 0 := by decide +kernel
end Go.Ev.X
end
