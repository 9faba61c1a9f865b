/-
  Runs of the law's loops.
-/
import Derived.Test.YtedbnfdmeigabaaRS
set_option linter.unusedSimpArgs false
set_option linter.unusedVariables false
set_option maxRecDepth 100000
noncomputable section
namespace Go.Ev.X
open Go Go.Ev
theorem rg24 : allB goB (rngF 24 8) = true := by decide +kernel
theorem rg120 : allB goB (rngF 120 8) = true := by decide +kernel
theorem rh24 : allB go2B (rngF 24 24) = true := by decide +kernel
theorem rh312 : allB go2B (rngF 312 24) = true := by decide +kernel
end Go.Ev.X
end
