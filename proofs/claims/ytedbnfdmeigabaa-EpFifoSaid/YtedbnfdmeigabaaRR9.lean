/-
  Runs of the law's loops.
-/
import Derived.Test.YtedbnfdmeigabaaRS
set_option linter.unusedSimpArgs false
set_option linter.unusedVariables false
set_option maxRecDepth 100000
noncomputable section
namespace Go.Ev.X
open Go Go.Ev
theorem rg72 : allB goB (rngF 72 8) = true := by decide +kernel
theorem ro64 : allB outB (rngF 64 16) = true := by decide +kernel
theorem rh168 : allB go2B (rngF 168 24) = true := by decide +kernel
theorem rh456 : allB go2B (rngF 456 24) = true := by decide +kernel
end Go.Ev.X
end
