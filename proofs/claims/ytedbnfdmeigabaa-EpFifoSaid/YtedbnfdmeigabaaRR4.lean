/-
  Runs of the law's loops.
-/
import Derived.Test.YtedbnfdmeigabaaRS
set_option linter.unusedSimpArgs false
set_option linter.unusedVariables false
set_option maxRecDepth 100000
noncomputable section
namespace Go.Ev.X
open Go Go.Ev
theorem rg32 : allB goB (rngF 32 8) = true := by decide +kernel
theorem rg128 : allB goB (rngF 128 2) = true := by decide +kernel
theorem rh48 : allB go2B (rngF 48 24) = true := by decide +kernel
theorem rh336 : allB go2B (rngF 336 24) = true := by decide +kernel
end Go.Ev.X
end
