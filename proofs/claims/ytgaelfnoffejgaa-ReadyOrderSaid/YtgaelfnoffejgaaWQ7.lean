/-
 ReadyOrder: its runs, one by one (7 wait).
-/
import Derived.Test.YtgaelfnoffejgaaWQ
set_option linter.unusedSimpArgs false
set_option linter.unusedVariables false
set_option maxRecDepth 100000
noncomputable section
namespace Go.Ev.X
open Go Go.Ev Go.Proofs
theorem goS7 : allB (fun l => Nat.beq (goS 7 l) 0) (patW 6) = true := by decide +kernel
end Go.Ev.X
end
