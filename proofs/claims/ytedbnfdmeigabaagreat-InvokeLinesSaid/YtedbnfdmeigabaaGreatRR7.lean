/-
  The runs, part 7.
-/
import Derived.Test.YtedbnfdmeigabaaGreatRD
set_option linter.unusedSimpArgs false
set_option linter.unusedVariables false
set_option maxRecDepth 100000
noncomputable section
namespace Go.Ev.X
open Go Go.Ev
theorem rb7_0 : runB 7 0 = 0 := by decide +kernel
theorem rb7_1 : runB 7 1 = 0 := by decide +kernel
theorem rb7_2 : runB 7 2 = 0 := by decide +kernel
theorem rb15_0 : runB 15 0 = 0 := by decide +kernel
theorem rb15_1 : runB 15 1 = 0 := by decide +kernel
theorem rb15_2 : runB 15 2 = 0 := by decide +kernel
end Go.Ev.X
end
