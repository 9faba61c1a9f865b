/-
  What calls come to.
-/
import Derived.Test.YtligpkenodgfoaaGreatDoorIH
set_option linter.unusedSimpArgs false
set_option linter.unusedVariables false
set_option maxRecDepth 100000
noncomputable section
namespace Go.Ev.X
open Go Go.Ev
theorem it62 : im62.run call1 ⟨[], []⟩ = 0 := by decide +kernel
theorem it63 : im63.run call1 ⟨[], []⟩ = 0 := by decide +kernel
theorem it64 : im64.run call1 ⟨fc20, []⟩ = 0 := by decide +kernel
theorem it65 : im65.run call1 ⟨fc21, []⟩ = 0 := by decide +kernel
theorem it66 : im66.run call1 ⟨fc22, []⟩ = 0 := by decide +kernel
theorem it67 : im67.run call1 ⟨fc23, []⟩ = 0 := by decide +kernel
theorem it68 : im68.run call1 ⟨fc24, []⟩ = 0 := by decide +kernel
end Go.Ev.X
end
