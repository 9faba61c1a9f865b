/-
 ReadyOrder: its runs, one by one (8 wait).
-/
import Derived.Test.YtgaelfnoffejgaaWQ
set_option linter.unusedSimpArgs false
set_option linter.unusedVariables false
set_option maxRecDepth 100000
noncomputable section
namespace Go.Ev.X
open Go Go.Ev Go.Proofs
theorem goS8 : allB (fun l => Nat.beq (goS 8 l) 0) (patW 7) = true := by decide +kernel
end Go.Ev.X
end
