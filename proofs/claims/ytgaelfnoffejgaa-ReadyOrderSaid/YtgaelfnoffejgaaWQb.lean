/-
 ReadyOrder: its runs, one by one (5 wait).
-/
import Derived.Test.YtgaelfnoffejgaaWQ
set_option linter.unusedSimpArgs false
set_option linter.unusedVariables false
set_option maxRecDepth 100000
noncomputable section
namespace Go.Ev.X
open Go Go.Ev Go.Proofs
theorem goS5 : allB (fun l => Nat.beq (goS 5 l) 0) (patW 4) = true := by decide +kernel
end Go.Ev.X
end
/-
 ReadyOrder: its runs, one by one (6 wait).
-/
set_option linter.unusedSimpArgs false
set_option linter.unusedVariables false
set_option maxRecDepth 100000
noncomputable section
namespace Go.Ev.X
open Go Go.Ev Go.Proofs
theorem goS6 : allB (fun l => Nat.beq (goS 6 l) 0) (patW 5) = true := by decide +kernel
end Go.Ev.X
end
