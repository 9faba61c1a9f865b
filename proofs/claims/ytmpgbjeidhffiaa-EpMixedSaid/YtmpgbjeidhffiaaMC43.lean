/-
  What calls come to.
-/
import Derived.Test.YtmpgbjeidhffiaaMH
set_option linter.unusedSimpArgs false
set_option linter.unusedVariables false
set_option maxRecDepth 100000
noncomputable section
namespace Go.Ev.X
open Go Go.Ev
theorem mt43 : mm43.run call1 ⟨[], []⟩ = 0 := by decide +kernel
theorem mt44 : mm44.run call1 ⟨[], []⟩ = 0 := by decide +kernel
theorem mt45 : mm45.run call1 ⟨[], []⟩ = 0 := by decide +kernel
end Go.Ev.X
end
