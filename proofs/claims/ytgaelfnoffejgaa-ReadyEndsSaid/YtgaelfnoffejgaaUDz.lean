/-
 ReadyEnds: runs of dropping (0).
-/
import Derived.Test.YtgaelfnoffejgaaUR
set_option linter.unusedSimpArgs false
set_option linter.unusedVariables false
set_option maxRecDepth 100000
noncomputable section
namespace Go.Ev.X
open Go Go.Ev Go.Proofs
theorem dropU0 : allB (fun a => allB (fun b => Nat.beq (dropU true true a b) 0) (rng 6)) (rng 6) = true := by decide +kernel
end Go.Ev.X
end
/-
 ReadyEnds: runs of dropping (1).
-/
set_option linter.unusedSimpArgs false
set_option linter.unusedVariables false
set_option maxRecDepth 100000
noncomputable section
namespace Go.Ev.X
open Go Go.Ev Go.Proofs
theorem dropU1 : allB (fun a => allB (fun b => Nat.beq (dropU true false a b) 0) (rng 6)) (rng 6) = true := by decide +kernel
end Go.Ev.X
end
/-
 ReadyEnds: runs of dropping (2).
-/
set_option linter.unusedSimpArgs false
set_option linter.unusedVariables false
set_option maxRecDepth 100000
noncomputable section
namespace Go.Ev.X
open Go Go.Ev Go.Proofs
theorem dropU2 : allB (fun a => allB (fun b => Nat.beq (dropU false true a b) 0) (rng 6)) (rng 6) = true := by decide +kernel
end Go.Ev.X
end
/-
 ReadyEnds: runs of dropping (3).
-/
set_option linter.unusedSimpArgs false
set_option linter.unusedVariables false
set_option maxRecDepth 100000
noncomputable section
namespace Go.Ev.X
open Go Go.Ev Go.Proofs
theorem dropU3 : allB (fun a => allB (fun b => Nat.beq (dropU false false a b) 0) (rng 6)) (rng 6) = true := by decide +kernel
end Go.Ev.X
end
