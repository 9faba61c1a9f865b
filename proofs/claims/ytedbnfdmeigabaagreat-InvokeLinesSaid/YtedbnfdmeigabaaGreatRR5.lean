/-
  The runs, part 5.
-/
import Derived.Test.YtedbnfdmeigabaaGreatRD
set_option linter.unusedSimpArgs false
set_option linter.unusedVariables false
set_option maxRecDepth 100000
noncomputable section
namespace Go.Ev.X
open Go Go.Ev
theorem rb5_0 : runB 5 0 = 0 := by decide +kernel
theorem rb5_1 : runB 5 1 = 0 := by decide +kernel
theorem rb5_2 : runB 5 2 = 0 := by decide +kernel
theorem rb13_0 : runB 13 0 = 0 := by decide +kernel
theorem rb13_1 : runB 13 1 = 0 := by decide +kernel
theorem rb13_2 : runB 13 2 = 0 := by decide +kernel
end Go.Ev.X
end
