/-
  Runs of the law's loops.
-/
import Derived.Test.YtedbnfdmeigabaaGreatRS
set_option linter.unusedSimpArgs false
set_option linter.unusedVariables false
set_option maxRecDepth 100000
noncomputable section
namespace Go.Ev.X
open Go Go.Ev
theorem rh36 : allB go2B (rngF 36 12) = true := by decide +kernel
end Go.Ev.X
end
