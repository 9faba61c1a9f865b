/-
  Runs of the law's loops.
-/
import Derived.Test.YtedbnfdmeigabaaRS
set_option linter.unusedSimpArgs false
set_option linter.unusedVariables false
set_option maxRecDepth 100000
noncomputable section
namespace Go.Ev.X
open Go Go.Ev
theorem rg88 : allB goB (rngF 88 8) = true := by decide +kernel
theorem ro96 : allB outB (rngF 96 16) = true := by decide +kernel
theorem rh216 : allB go2B (rngF 216 24) = true := by decide +kernel
theorem rh504 : allB go2B (rngF 504 18) = true := by decide +kernel
end Go.Ev.X
end
