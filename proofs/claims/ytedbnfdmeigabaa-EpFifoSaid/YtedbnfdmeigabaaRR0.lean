/-
  Runs of the law's loops.
-/
import Derived.Test.YtedbnfdmeigabaaRS
set_option linter.unusedSimpArgs false
set_option linter.unusedVariables false
set_option maxRecDepth 100000
noncomputable section
namespace Go.Ev.X
open Go Go.Ev
theorem rg0 : allB goB (rngF 0 8) = true := by decide +kernel
theorem rg96 : allB goB (rngF 96 8) = true := by decide +kernel
theorem ro112 : allB outB (rngF 112 16) = true := by decide +kernel
theorem rh240 : allB go2B (rngF 240 24) = true := by decide +kernel
end Go.Ev.X
end
