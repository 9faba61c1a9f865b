/-
  Runs of the law's loops.
-/
import Derived.Test.YtedbnfdmeigabaaGreatRS
set_option linter.unusedSimpArgs false
set_option linter.unusedVariables false
set_option maxRecDepth 100000
noncomputable section
namespace Go.Ev.X
open Go Go.Ev
theorem ro16 : allB outB (rngF 16 16) = true := by decide +kernel
theorem rh192 : allB go2B (rngF 192 24) = true := by decide +kernel
end Go.Ev.X
end
