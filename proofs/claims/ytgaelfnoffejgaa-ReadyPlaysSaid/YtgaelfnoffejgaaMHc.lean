/-
 The highest one's runs (the document's), priorities from 191 on downwards.
-/
import Derived.Test.YtgaelfnoffejgaaMH2r
set_option linter.unusedSimpArgs false
set_option linter.unusedVariables false
set_option maxRecDepth 100000
noncomputable section
namespace Go.Ev.X
open Go Go.Ev Go.Proofs Go.RowKit
theorem hrr2 : allB (fun i => Nat.beq (hrun (64 + i)) 0) (rng 32) = true := by decide +kernel
end Go.Ev.X
end
/-
 The highest one's runs (the document's), priorities from 159 on downwards.
-/
set_option linter.unusedSimpArgs false
set_option linter.unusedVariables false
set_option maxRecDepth 100000
noncomputable section
namespace Go.Ev.X
open Go Go.Ev Go.Proofs Go.RowKit
theorem hrr3 : allB (fun i => Nat.beq (hrun (96 + i)) 0) (rng 32) = true := by decide +kernel
end Go.Ev.X
end
