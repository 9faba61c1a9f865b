/-
  Runs of the law's loops.
-/
import Derived.Test.YtedbnfdmeigabaaRS
set_option linter.unusedSimpArgs false
set_option linter.unusedVariables false
set_option maxRecDepth 100000
noncomputable section
namespace Go.Ev.X
open Go Go.Ev
theorem rg16 : allB goB (rngF 16 8) = true := by decide +kernel
theorem rg112 : allB goB (rngF 112 8) = true := by decide +kernel
theorem rh0 : allB go2B (rngF 0 24) = true := by decide +kernel
theorem rh288 : allB go2B (rngF 288 24) = true := by decide +kernel
end Go.Ev.X
end
