/-
  What calls come to.
-/
import Derived.Test.YtfgldnbccopplaaGreatMH
set_option linter.unusedSimpArgs false
set_option linter.unusedVariables false
set_option maxRecDepth 100000
noncomputable section
namespace Go.Ev.X
open Go Go.Ev
theorem mt5 : mm5.run call1 ⟨[], []⟩ = 0 := by decide +kernel
theorem mt6 : mm6.run call1 ⟨[], []⟩ = 0 := by decide +kernel
theorem mt7 : mm7.run call1 ⟨[], []⟩ = 0 := by decide +kernel
theorem mt8 : mm8.run call1 ⟨[], []⟩ = 0 := by decide +kernel
end Go.Ev.X
end
