/-
  What calls come to.
-/
import Derived.Test.YtapeacnagpphjaaGreatNH
set_option linter.unusedSimpArgs false
set_option linter.unusedVariables false
set_option maxRecDepth 100000
noncomputable section
namespace Go.Ev.X
open Go Go.Ev
theorem nt24 : nm24.run call1 ⟨flNm0, rrN⟩ = 0 := by decide +kernel
theorem nt25 : nm25.run call1 ⟨flNm0, rrN⟩ = 0 := by decide +kernel
theorem nt26 : nm26.run call1 ⟨flNm0, rrN⟩ = 0 := by decide +kernel
theorem nt27 : nm27.run call1 ⟨flNm0, rrN⟩ = 0 := by decide +kernel
theorem nt28 : nm28.run call1 ⟨flN, rrN⟩ = 0 := by decide +kernel
theorem nt29 : nm29.run call1 ⟨flN, rrN⟩ = 0 := by decide +kernel
theorem nt30 : nm30.run call1 ⟨flN, rrN⟩ = 0 := by decide +kernel
theorem nt31 : nm31.run call1 ⟨flN, rrN⟩ = 0 := by decide +kernel
theorem nt32 : nm32.run call1 ⟨flN, rrN⟩ = 0 := by decide +kernel
theorem nt33 : nm33.run call1 ⟨flN, rrN⟩ = 0 := by decide +kernel
theorem nt34 : nm34.run call1 ⟨flN, rrN⟩ = 0 := by decide +kernel
theorem nt35 : nm35.run call1 ⟨flN, rrN⟩ = 0 := by decide +kernel
theorem nt36 : nm36.run call1 ⟨flN, rrN⟩ = 0 := by decide +kernel
theorem nt37 : nm37.run call1 ⟨flN, rrN⟩ = 0 := by decide +kernel
theorem nt38 : nm38.run call1 ⟨flN, rrN⟩ = 0 := by decide +kernel
theorem nt39 : nm39.run call1 ⟨flN, rrN⟩ = 0 := by decide +kernel
theorem nt40 : nm40.run call1 ⟨flN, rrN⟩ = 0 := by decide +kernel
end Go.Ev.X
end
