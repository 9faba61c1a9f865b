/-
  Runs of the law's loops.
-/
import Derived.Test.YtedbnfdmeigabaaRS
set_option linter.unusedSimpArgs false
set_option linter.unusedVariables false
set_option maxRecDepth 100000
noncomputable section
namespace Go.Ev.X
open Go Go.Ev
theorem rg80 : allB goB (rngF 80 8) = true := by decide +kernel
theorem ro80 : allB outB (rngF 80 16) = true := by decide +kernel
theorem rh192 : allB go2B (rngF 192 24) = true := by decide +kernel
theorem rh480 : allB go2B (rngF 480 24) = true := by decide +kernel
end Go.Ev.X
end
