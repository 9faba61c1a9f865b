/-
  The runs, part 2.
-/
import Derived.Test.YtedbnfdmeigabaaGreatRD
set_option linter.unusedSimpArgs false
set_option linter.unusedVariables false
set_option maxRecDepth 100000
noncomputable section
namespace Go.Ev.X
open Go Go.Ev
theorem rb2_0 : runB 2 0 = 0 := by decide +kernel
theorem rb2_1 : runB 2 1 = 0 := by decide +kernel
theorem rb2_2 : runB 2 2 = 0 := by decide +kernel
theorem rb10_0 : runB 10 0 = 0 := by decide +kernel
theorem rb10_1 : runB 10 1 = 0 := by decide +kernel
theorem rb10_2 : runB 10 2 = 0 := by decide +kernel
end Go.Ev.X
end
