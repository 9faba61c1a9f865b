/-
  What calls come to.
-/
import Derived.Test.YtmpgbjeidhffiaaAH
set_option linter.unusedSimpArgs false
set_option linter.unusedVariables false
set_option maxRecDepth 100000
noncomputable section
namespace Go.Ev.X
open Go Go.Ev
theorem at7 : am7.run call1 ⟨[], []⟩ = 0 := by decide +kernel
theorem at8 : am8.run call1 ⟨[], []⟩ = 0 := by decide +kernel
theorem at9 : am9.run call1 ⟨[], []⟩ = 0 := by decide +kernel
theorem at10 : am10.run call1 ⟨[], []⟩ = 0 := by decide +kernel
end Go.Ev.X
end
