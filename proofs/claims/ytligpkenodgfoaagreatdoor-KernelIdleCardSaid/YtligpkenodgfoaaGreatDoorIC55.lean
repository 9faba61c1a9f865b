/-
  What calls come to.
-/
import Derived.Test.YtligpkenodgfoaaGreatDoorIH
set_option linter.unusedSimpArgs false
set_option linter.unusedVariables false
set_option maxRecDepth 100000
noncomputable section
namespace Go.Ev.X
open Go Go.Ev
theorem it55 : im55.run call1 ⟨[], []⟩ = 0 := by decide +kernel
theorem it56 : im56.run call1 ⟨[], []⟩ = 0 := by decide +kernel
theorem it57 : im57.run call1 ⟨fc17, []⟩ = 0 := by decide +kernel
theorem it58 : im58.run call1 ⟨fc18, []⟩ = 0 := by decide +kernel
theorem it59 : im59.run call1 ⟨fc19, []⟩ = 0 := by decide +kernel
end Go.Ev.X
end
