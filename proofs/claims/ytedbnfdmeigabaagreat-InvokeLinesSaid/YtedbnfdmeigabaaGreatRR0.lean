/-
  The runs, part 0.
-/
import Derived.Test.YtedbnfdmeigabaaGreatRD
set_option linter.unusedSimpArgs false
set_option linter.unusedVariables false
set_option maxRecDepth 100000
noncomputable section
namespace Go.Ev.X
open Go Go.Ev
theorem rb0_0 : runB 0 0 = 0 := by decide +kernel
theorem rb0_1 : runB 0 1 = 0 := by decide +kernel
theorem rb0_2 : runB 0 2 = 0 := by decide +kernel
theorem rb8_0 : runB 8 0 = 0 := by decide +kernel
theorem rb8_1 : runB 8 1 = 0 := by decide +kernel
theorem rb8_2 : runB 8 2 = 0 := by decide +kernel
end Go.Ev.X
end
