/-
  The runs, part 6.
-/
import Derived.Test.YtedbnfdmeigabaaGreatRD
set_option linter.unusedSimpArgs false
set_option linter.unusedVariables false
set_option maxRecDepth 100000
noncomputable section
namespace Go.Ev.X
open Go Go.Ev
theorem rb6_0 : runB 6 0 = 0 := by decide +kernel
theorem rb6_1 : runB 6 1 = 0 := by decide +kernel
theorem rb6_2 : runB 6 2 = 0 := by decide +kernel
theorem rb14_0 : runB 14 0 = 0 := by decide +kernel
theorem rb14_1 : runB 14 1 = 0 := by decide +kernel
theorem rb14_2 : runB 14 2 = 0 := by decide +kernel
end Go.Ev.X
end
