/-
  Runs of the law's loops.
-/
import Derived.Test.YtedbnfdmeigabaaRS
set_option linter.unusedSimpArgs false
set_option linter.unusedVariables false
set_option maxRecDepth 100000
noncomputable section
namespace Go.Ev.X
open Go Go.Ev
theorem rg56 : allB goB (rngF 56 8) = true := by decide +kernel
theorem ro32 : allB outB (rngF 32 16) = true := by decide +kernel
theorem rh120 : allB go2B (rngF 120 24) = true := by decide +kernel
theorem rh408 : allB go2B (rngF 408 24) = true := by decide +kernel
end Go.Ev.X
end
