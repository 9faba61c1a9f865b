/-
  Their runs, 0.
-/
import Derived.Test.YtkecfebodpkamaaGreatMQd
set_option linter.unusedSimpArgs false
set_option linter.unusedVariables false
set_option maxRecDepth 100000
noncomputable section
namespace Go.Ev.X
open Go Go.Ev Go.Proofs
variable {E : Env} {f : Nat → Int}
theorem endsP_run : allB (fun p => Nat.beq (runX cx0 cP (endsEs 44 p) [] 41 [.i .i64 (.ofNat p)] ⟨[], []⟩ endsVp 1 s1) 0) (rng 256) = true := by decide +kernel
end Go.Ev.X
end
