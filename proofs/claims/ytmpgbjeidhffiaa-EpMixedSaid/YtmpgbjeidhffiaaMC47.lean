/-
  What calls come to.
-/
import Derived.Test.YtmpgbjeidhffiaaMH
set_option linter.unusedSimpArgs false
set_option linter.unusedVariables false
set_option maxRecDepth 100000
noncomputable section
namespace Go.Ev.X
open Go Go.Ev
theorem mt47 : mm47.run call1 ⟨[], []⟩ = 0 := by decide +kernel
theorem mt48 : mm48.run call1 ⟨[], []⟩ = 0 := by decide +kernel
theorem mt49 : mm49.run call1 ⟨[], []⟩ = 0 := by decide +kernel
theorem mt50 : mm50.run call1 ⟨[], []⟩ = 0 := by decide +kernel
theorem mt51 : mm51.run call1 ⟨[], []⟩ = 0 := by decide +kernel
theorem mt52 : mm52.run call1 ⟨[], []⟩ = 0 := by decide +kernel
end Go.Ev.X
end
