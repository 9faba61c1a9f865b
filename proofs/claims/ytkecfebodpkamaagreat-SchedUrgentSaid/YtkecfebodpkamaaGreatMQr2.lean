/-
  Their runs, 2.
-/
import Derived.Test.YtkecfebodpkamaaGreatMQd
set_option linter.unusedSimpArgs false
set_option linter.unusedVariables false
set_option maxRecDepth 100000
noncomputable section
namespace Go.Ev.X
open Go Go.Ev Go.Proofs
variable {E : Env} {f : Nat → Int}
theorem mark_run : allB (fun k => allB (fun on => Nat.beq (runX cx0 cP (markEs k on) [] 88 [.si .i64 (.v 1), .i .i64 (.ofNat k), .b on] ⟨[], []⟩ (.si .u64 (bitE k on (.v 100))) 2 s2) 0) bools) (rng 64) = true := by decide +kernel
end Go.Ev.X
end
