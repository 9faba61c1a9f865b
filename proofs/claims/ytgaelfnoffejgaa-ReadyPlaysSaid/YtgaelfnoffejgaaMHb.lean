/-
 The highest one's runs (the document's), priorities from 255 on downwards.
-/
import Derived.Test.YtgaelfnoffejgaaMH2r
set_option linter.unusedSimpArgs false
set_option linter.unusedVariables false
set_option maxRecDepth 100000
noncomputable section
namespace Go.Ev.X
open Go Go.Ev Go.Proofs Go.RowKit
theorem hrr0 : allB (fun i => Nat.beq (hrun (0 + i)) 0) (rng 32) = true := by decide +kernel
end Go.Ev.X
end
/-
 The highest one's runs (the document's), priorities from 223 on downwards.
-/
set_option linter.unusedSimpArgs false
set_option linter.unusedVariables false
set_option maxRecDepth 100000
noncomputable section
namespace Go.Ev.X
open Go Go.Ev Go.Proofs Go.RowKit
theorem hrr1 : allB (fun i => Nat.beq (hrun (32 + i)) 0) (rng 32) = true := by decide +kernel
end Go.Ev.X
end
