/-
  What calls come to.
-/
import Derived.Test.YtligpkenodgfoaaGreatDoorIH
set_option linter.unusedSimpArgs false
set_option linter.unusedVariables false
set_option maxRecDepth 100000
noncomputable section
namespace Go.Ev.X
open Go Go.Ev
theorem it42 : im42.run call1 ⟨fc6, []⟩ = 0 := by decide +kernel
theorem it43 : im43.run call1 ⟨fc7, []⟩ = 0 := by decide +kernel
theorem it44 : im44.run call1 ⟨fc8, []⟩ = 0 := by decide +kernel
theorem it45 : im45.run call1 ⟨fc9, []⟩ = 0 := by decide +kernel
theorem it46 : im46.run call1 ⟨fc10, []⟩ = 0 := by decide +kernel
theorem it47 : im47.run call1 ⟨fc11, []⟩ = 0 := by decide +kernel
end Go.Ev.X
end
