/-
  Runs of the law's loops.
-/
import Derived.Test.YtedbnfdmeigabaaRS
set_option linter.unusedSimpArgs false
set_option linter.unusedVariables false
set_option maxRecDepth 100000
noncomputable section
namespace Go.Ev.X
open Go Go.Ev
theorem rg8 : allB goB (rngF 8 8) = true := by decide +kernel
theorem rg104 : allB goB (rngF 104 8) = true := by decide +kernel
theorem ro128 : allB outB (rngF 128 2) = true := by decide +kernel
theorem rh264 : allB go2B (rngF 264 24) = true := by decide +kernel
end Go.Ev.X
end
