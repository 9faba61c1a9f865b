/-
  The runs, part 3.
-/
import Derived.Test.YtedbnfdmeigabaaGreatRD
set_option linter.unusedSimpArgs false
set_option linter.unusedVariables false
set_option maxRecDepth 100000
noncomputable section
namespace Go.Ev.X
open Go Go.Ev
theorem rb3_0 : runB 3 0 = 0 := by decide +kernel
theorem rb3_1 : runB 3 1 = 0 := by decide +kernel
theorem rb3_2 : runB 3 2 = 0 := by decide +kernel
theorem rb11_0 : runB 11 0 = 0 := by decide +kernel
theorem rb11_1 : runB 11 1 = 0 := by decide +kernel
theorem rb11_2 : runB 11 2 = 0 := by decide +kernel
end Go.Ev.X
end
