/-
  Their runs, 3.
-/
import Derived.Test.YtkecfebodpkamaaGreatMQd
set_option linter.unusedSimpArgs false
set_option linter.unusedVariables false
set_option maxRecDepth 100000
noncomputable section
namespace Go.Ev.X
open Go Go.Ev Go.Proofs
variable {E : Env} {f : Nat → Int}
theorem set_run : allB (fun p => Nat.beq (runX cx0 cP (setEs p) [] 67 [.i .i64 (.ofNat p), .si .i64 (.v 2), .si .i64 (.v 3)] ⟨[], []⟩ (.tup []) 3 s3) 0) (rng 256) = true := by decide +kernel
end Go.Ev.X
end
