/-
  What calls come to.
-/
import Derived.Test.YtligpkenodgfoaaGreatDoorIH
set_option linter.unusedSimpArgs false
set_option linter.unusedVariables false
set_option maxRecDepth 100000
noncomputable section
namespace Go.Ev.X
open Go Go.Ev
theorem it1 : im1.run call1 ⟨[], []⟩ = 0 := by decide +kernel
theorem it2 : im2.run call1 ⟨[], []⟩ = 0 := by decide +kernel
theorem it3 : im3.run call1 ⟨[], []⟩ = 0 := by decide +kernel
theorem it4 : im4.run call1 ⟨[], []⟩ = 0 := by decide +kernel
theorem it5 : im5.run call1 ⟨[], []⟩ = 0 := by decide +kernel
theorem it6 : im6.run call1 ⟨[], []⟩ = 0 := by decide +kernel
end Go.Ev.X
end
