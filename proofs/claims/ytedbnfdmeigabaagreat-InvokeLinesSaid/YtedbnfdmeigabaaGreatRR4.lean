/-
  The runs, part 4.
-/
import Derived.Test.YtedbnfdmeigabaaGreatRD
set_option linter.unusedSimpArgs false
set_option linter.unusedVariables false
set_option maxRecDepth 100000
noncomputable section
namespace Go.Ev.X
open Go Go.Ev
theorem rb4_0 : runB 4 0 = 0 := by decide +kernel
theorem rb4_1 : runB 4 1 = 0 := by decide +kernel
theorem rb4_2 : runB 4 2 = 0 := by decide +kernel
theorem rb12_0 : runB 12 0 = 0 := by decide +kernel
theorem rb12_1 : runB 12 1 = 0 := by decide +kernel
theorem rb12_2 : runB 12 2 = 0 := by decide +kernel
end Go.Ev.X
end
