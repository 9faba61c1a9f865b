/-
  What calls come to.
-/
import Derived.Test.YtligpkenodgfoaaGreatDoorIH
set_option linter.unusedSimpArgs false
set_option linter.unusedVariables false
set_option maxRecDepth 100000
noncomputable section
namespace Go.Ev.X
open Go Go.Ev
theorem it48 : im48.run call1 ⟨fc12, []⟩ = 0 := by decide +kernel
theorem it49 : im49.run call1 ⟨fc13, []⟩ = 0 := by decide +kernel
theorem it50 : im50.run call1 ⟨fc14, []⟩ = 0 := by decide +kernel
theorem it51 : im51.run call1 ⟨fc15, []⟩ = 0 := by decide +kernel
theorem it52 : im52.run call1 ⟨fc16, []⟩ = 0 := by decide +kernel
end Go.Ev.X
end
