/-
  Runs of the law's loops.
-/
import Derived.Test.YtedbnfdmeigabaaRS
set_option linter.unusedSimpArgs false
set_option linter.unusedVariables false
set_option maxRecDepth 100000
noncomputable section
namespace Go.Ev.X
open Go Go.Ev
theorem rg48 : allB goB (rngF 48 8) = true := by decide +kernel
theorem ro16 : allB outB (rngF 16 16) = true := by decide +kernel
theorem rh96 : allB go2B (rngF 96 24) = true := by decide +kernel
theorem rh384 : allB go2B (rngF 384 24) = true := by decide +kernel
end Go.Ev.X
end
