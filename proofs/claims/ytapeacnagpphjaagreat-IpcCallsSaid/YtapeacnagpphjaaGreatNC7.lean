/-
  What calls come to.
-/
import Derived.Test.YtapeacnagpphjaaGreatNH
set_option linter.unusedSimpArgs false
set_option linter.unusedVariables false
set_option maxRecDepth 100000
noncomputable section
namespace Go.Ev.X
open Go Go.Ev
theorem nt7 : nm7.run call1 ⟨flN, rrN⟩ = 0 := by decide +kernel
theorem nt8 : nm8.run call1 ⟨flN, rrN⟩ = 0 := by decide +kernel
theorem nt9 : nm9.run call1 ⟨flN, rrN⟩ = 0 := by decide +kernel
theorem nt10 : nm10.run call1 ⟨flN, rrN⟩ = 0 := by decide +kernel
theorem nt11 : nm11.run call1 ⟨flN, rrN⟩ = 0 := by decide +kernel
theorem nt12 : nm12.run call1 ⟨flN, rrN⟩ = 0 := by decide +kernel
theorem nt13 : nm13.run call1 ⟨flN, rrN⟩ = 0 := by decide +kernel
theorem nt14 : nm14.run call1 ⟨flN, rrN⟩ = 0 := by decide +kernel
theorem nt15 : nm15.run call1 ⟨flN, rrN⟩ = 0 := by decide +kernel
theorem nt16 : nm16.run call1 ⟨flN, rrN⟩ = 0 := by decide +kernel
theorem nt17 : nm17.run call1 ⟨flN, rrN⟩ = 0 := by decide +kernel
theorem nt18 : nm18.run call1 ⟨flN, rrN⟩ = 0 := by decide +kernel
theorem nt19 : nm19.run call1 ⟨flN, rrN⟩ = 0 := by decide +kernel
theorem nt20 : nm20.run call1 ⟨flN, rrN⟩ = 0 := by decide +kernel
theorem nt21 : nm21.run call1 ⟨flN, rrN⟩ = 0 := by decide +kernel
end Go.Ev.X
end
