/-
  What calls come to.
-/
import Derived.Test.YtfgldnbccopplaaGreatMH
set_option linter.unusedSimpArgs false
set_option linter.unusedVariables false
set_option maxRecDepth 100000
noncomputable section
namespace Go.Ev.X
open Go Go.Ev
theorem mt13 : mm13.run call1 ⟨[], []⟩ = 0 := by decide +kernel
theorem mt14 : mm14.run call1 ⟨[], []⟩ = 0 := by decide +kernel
theorem mt15 : mm15.run call1 ⟨[], []⟩ = 0 := by decide +kernel
theorem mt16 : mm16.run call1 ⟨[], []⟩ = 0 := by decide +kernel
end Go.Ev.X
end
