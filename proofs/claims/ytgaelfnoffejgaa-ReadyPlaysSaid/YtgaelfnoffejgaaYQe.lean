/-
 ReadyPlays: its runs (8).
-/
import Derived.Test.YtgaelfnoffejgaaYQ
set_option linter.unusedSimpArgs false
set_option linter.unusedVariables false
set_option maxRecDepth 100000
noncomputable section
namespace Go.Ev.X
open Go Go.Ev Go.Proofs
theorem goY8 : allB (fun c => Nat.beq (goY (c + 1) 8) 0) (rng 13) = true := by decide +kernel
end Go.Ev.X
end
/-
 ReadyPlays: its runs (9).
-/
set_option linter.unusedSimpArgs false
set_option linter.unusedVariables false
set_option maxRecDepth 100000
noncomputable section
namespace Go.Ev.X
open Go Go.Ev Go.Proofs
theorem goY9 : allB (fun c => Nat.beq (goY (c + 1) 9) 0) (rng 13) = true := by decide +kernel
end Go.Ev.X
end
/-
 ReadyPlays: its runs (10).
-/
set_option linter.unusedSimpArgs false
set_option linter.unusedVariables false
set_option maxRecDepth 100000
noncomputable section
namespace Go.Ev.X
open Go Go.Ev Go.Proofs
theorem goY10 : allB (fun c => Nat.beq (goY (c + 1) 10) 0) (rng 13) = true := by decide +kernel
end Go.Ev.X
end
