/-
  What calls come to.
-/
import Derived.Test.YtmpgbjeidhffiaaAH
set_option linter.unusedSimpArgs false
set_option linter.unusedVariables false
set_option maxRecDepth 100000
noncomputable section
namespace Go.Ev.X
open Go Go.Ev
theorem at1 : am1.run call1 ⟨[], []⟩ = 0 := by decide +kernel
theorem at2 : am2.run call1 ⟨[], []⟩ = 0 := by decide +kernel
theorem at3 : am3.run call1 ⟨[], []⟩ = 0 := by decide +kernel
theorem at4 : am4.run call1 ⟨[], []⟩ = 0 := by decide +kernel
theorem at5 : am5.run call1 ⟨[], []⟩ = 0 := by decide +kernel
theorem at6 : am6.run call1 ⟨[], []⟩ = 0 := by decide +kernel
end Go.Ev.X
end
