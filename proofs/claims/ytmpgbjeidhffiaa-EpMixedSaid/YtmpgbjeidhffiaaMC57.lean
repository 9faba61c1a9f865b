/-
  What calls come to.
-/
import Derived.Test.YtmpgbjeidhffiaaMH
set_option linter.unusedSimpArgs false
set_option linter.unusedVariables false
set_option maxRecDepth 100000
noncomputable section
namespace Go.Ev.X
open Go Go.Ev
theorem mt57 : mm57.run call1 ⟨[], []⟩ = 0 := by decide +kernel
theorem mt58 : mm58.run call1 ⟨[], []⟩ = 0 := by decide +kernel
theorem mt59 : mm59.run call1 ⟨[], []⟩ = 0 := by decide +kernel
theorem mt60 : mm60.run call1 ⟨[], []⟩ = 0 := by decide +kernel
end Go.Ev.X
end
