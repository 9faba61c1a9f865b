/-
 ReadyOrder: its runs, one by one (1 wait).
-/
import Derived.Test.YtgaelfnoffejgaaWQ
set_option linter.unusedSimpArgs false
set_option linter.unusedVariables false
set_option maxRecDepth 100000
noncomputable section
namespace Go.Ev.X
open Go Go.Ev Go.Proofs
theorem goS1 : allB (fun l => Nat.beq (goS 1 l) 0) (patW 0) = true := by decide +kernel
end Go.Ev.X
end
/-
 ReadyOrder: its runs, one by one (2 wait).
-/
set_option linter.unusedSimpArgs false
set_option linter.unusedVariables false
set_option maxRecDepth 100000
noncomputable section
namespace Go.Ev.X
open Go Go.Ev Go.Proofs
theorem goS2 : allB (fun l => Nat.beq (goS 2 l) 0) (patW 1) = true := by decide +kernel
end Go.Ev.X
end
/-
 ReadyOrder: its runs, one by one (3 wait).
-/
set_option linter.unusedSimpArgs false
set_option linter.unusedVariables false
set_option maxRecDepth 100000
noncomputable section
namespace Go.Ev.X
open Go Go.Ev Go.Proofs
theorem goS3 : allB (fun l => Nat.beq (goS 3 l) 0) (patW 2) = true := by decide +kernel
end Go.Ev.X
end
/-
 ReadyOrder: its runs, one by one (4 wait).
-/
set_option linter.unusedSimpArgs false
set_option linter.unusedVariables false
set_option maxRecDepth 100000
noncomputable section
namespace Go.Ev.X
open Go Go.Ev Go.Proofs
theorem goS4 : allB (fun l => Nat.beq (goS 4 l) 0) (patW 3) = true := by decide +kernel
end Go.Ev.X
end
