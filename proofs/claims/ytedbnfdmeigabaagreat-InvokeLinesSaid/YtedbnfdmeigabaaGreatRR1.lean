/-
  The runs, part 1.
-/
import Derived.Test.YtedbnfdmeigabaaGreatRD
set_option linter.unusedSimpArgs false
set_option linter.unusedVariables false
set_option maxRecDepth 100000
noncomputable section
namespace Go.Ev.X
open Go Go.Ev
theorem rb1_0 : runB 1 0 = 0 := by decide +kernel
theorem rb1_1 : runB 1 1 = 0 := by decide +kernel
theorem rb1_2 : runB 1 2 = 0 := by decide +kernel
theorem rb9_0 : runB 9 0 = 0 := by decide +kernel
theorem rb9_1 : runB 9 1 = 0 := by decide +kernel
theorem rb9_2 : runB 9 2 = 0 := by decide +kernel
end Go.Ev.X
end
