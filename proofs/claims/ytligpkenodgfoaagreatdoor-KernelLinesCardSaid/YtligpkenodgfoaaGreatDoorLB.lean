/-
  Runs of the law.
-/
import Derived.Test.YtligpkenodgfoaaGreatDoorLS
set_option linter.unusedSimpArgs false
set_option linter.unusedVariables false
set_option maxRecDepth 100000
noncomputable section
namespace Go.Ev.X
open Go Go.Ev
theorem gbt : gbm.run call1 ⟨[], []⟩ = 0 := by decide +kernel
end Go.Ev.X
end
