/-
 ReadyPlays: its runs (4).
-/
import Derived.Test.YtgaelfnoffejgaaYQ
set_option linter.unusedSimpArgs false
set_option linter.unusedVariables false
set_option maxRecDepth 100000
noncomputable section
namespace Go.Ev.X
open Go Go.Ev Go.Proofs
theorem goY4 : allB (fun c => Nat.beq (goY (c + 1) 4) 0) (rng 13) = true := by decide +kernel
end Go.Ev.X
end
/-
 ReadyPlays: its runs (5).
-/
set_option linter.unusedSimpArgs false
set_option linter.unusedVariables false
set_option maxRecDepth 100000
noncomputable section
namespace Go.Ev.X
open Go Go.Ev Go.Proofs
theorem goY5 : allB (fun c => Nat.beq (goY (c + 1) 5) 0) (rng 13) = true := by decide +kernel
end Go.Ev.X
end
