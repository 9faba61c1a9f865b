/-
 ReadyPlays: its runs (6).
-/
import Derived.Test.YtgaelfnoffejgaaYQ
set_option linter.unusedSimpArgs false
set_option linter.unusedVariables false
set_option maxRecDepth 100000
noncomputable section
namespace Go.Ev.X
open Go Go.Ev Go.Proofs
theorem goY6 : allB (fun c => Nat.beq (goY (c + 1) 6) 0) (rng 13) = true := by decide +kernel
end Go.Ev.X
end
/-
 ReadyPlays: its runs (7).
-/
set_option linter.unusedSimpArgs false
set_option linter.unusedVariables false
set_option maxRecDepth 100000
noncomputable section
namespace Go.Ev.X
open Go Go.Ev Go.Proofs
theorem goY7 : allB (fun c => Nat.beq (goY (c + 1) 7) 0) (rng 13) = true := by decide +kernel
end Go.Ev.X
end
