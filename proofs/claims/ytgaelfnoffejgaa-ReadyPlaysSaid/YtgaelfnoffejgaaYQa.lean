/-
 ReadyPlays: its runs (0).
-/
import Derived.Test.YtgaelfnoffejgaaYQ
set_option linter.unusedSimpArgs false
set_option linter.unusedVariables false
set_option maxRecDepth 100000
noncomputable section
namespace Go.Ev.X
open Go Go.Ev Go.Proofs
theorem goY0 : allB (fun c => Nat.beq (goY (c + 1) 0) 0) (rng 13) = true := by decide +kernel
end Go.Ev.X
end
/-
 ReadyPlays: its runs (1).
-/
set_option linter.unusedSimpArgs false
set_option linter.unusedVariables false
set_option maxRecDepth 100000
noncomputable section
namespace Go.Ev.X
open Go Go.Ev Go.Proofs
theorem goY1 : allB (fun c => Nat.beq (goY (c + 1) 1) 0) (rng 13) = true := by decide +kernel
end Go.Ev.X
end
/-
 ReadyPlays: its runs (2).
-/
set_option linter.unusedSimpArgs false
set_option linter.unusedVariables false
set_option maxRecDepth 100000
noncomputable section
namespace Go.Ev.X
open Go Go.Ev Go.Proofs
theorem goY2 : allB (fun c => Nat.beq (goY (c + 1) 2) 0) (rng 13) = true := by decide +kernel
end Go.Ev.X
end
/-
 ReadyPlays: its runs (3).
-/
set_option linter.unusedSimpArgs false
set_option linter.unusedVariables false
set_option maxRecDepth 100000
noncomputable section
namespace Go.Ev.X
open Go Go.Ev Go.Proofs
theorem goY3 : allB (fun c => Nat.beq (goY (c + 1) 3) 0) (rng 13) = true := by decide +kernel
end Go.Ev.X
end
