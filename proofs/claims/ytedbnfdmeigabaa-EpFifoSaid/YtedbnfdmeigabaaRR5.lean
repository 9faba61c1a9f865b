/-
  Runs of the law's loops.
-/
import Derived.Test.YtedbnfdmeigabaaRS
set_option linter.unusedSimpArgs false
set_option linter.unusedVariables false
set_option maxRecDepth 100000
noncomputable section
namespace Go.Ev.X
open Go Go.Ev
theorem rg40 : allB goB (rngF 40 8) = true := by decide +kernel
theorem ro0 : allB outB (rngF 0 16) = true := by decide +kernel
theorem rh72 : allB go2B (rngF 72 24) = true := by decide +kernel
theorem rh360 : allB go2B (rngF 360 24) = true := by decide +kernel
end Go.Ev.X
end
