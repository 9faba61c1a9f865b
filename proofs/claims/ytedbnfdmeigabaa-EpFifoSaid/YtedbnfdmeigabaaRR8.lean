/-
  Runs of the law's loops.
-/
import Derived.Test.YtedbnfdmeigabaaRS
set_option linter.unusedSimpArgs false
set_option linter.unusedVariables false
set_option maxRecDepth 100000
noncomputable section
namespace Go.Ev.X
open Go Go.Ev
theorem rg64 : allB goB (rngF 64 8) = true := by decide +kernel
theorem ro48 : allB outB (rngF 48 16) = true := by decide +kernel
theorem rh144 : allB go2B (rngF 144 24) = true := by decide +kernel
theorem rh432 : allB go2B (rngF 432 24) = true := by decide +kernel
end Go.Ev.X
end
