/-
 Their runs, 1.
-/
import Derived.Test.YtgaelfnoffejgaaMQx
set_option linter.unusedSimpArgs false
set_option linter.unusedVariables false
set_option maxRecDepth 100000
noncomputable section
namespace Go.Ev.X
open Go Go.Ev Go.Proofs
variable {E : Env} {f : Nat → Int}
theorem endsR_run : allB (fun p => Nat.beq (runX cx0 cR (endsEs 66 p) [] 63 [.i .i64 (.ofNat p)] ⟨[], []⟩ endsVr 1 s1) 0) (rng 256) = true := by decide +kernel
end Go.Ev.X
end
/-
 Their runs, 4.
-/
set_option linter.unusedSimpArgs false
set_option linter.unusedVariables false
set_option maxRecDepth 100000
noncomputable section
namespace Go.Ev.X
open Go Go.Ev Go.Proofs
variable {E : Env} {f : Nat → Int}
theorem setr_run : allB (fun p => allB (fun a => allB (fun b => Nat.beq (runX cx0 cR (setErs p a b) [] 64 [.i .i64 (.ofNat p), .si .i64 (.v 2), .si .i64 (.v 3)]
  ⟨[((.cmp .neq (.v 2) (.lit 0)), a), ((.cmp .neq (bitE (p % 64) a (.v 200)) (.lit 0)), b)], []⟩ (.tup []) 5 s5) 0) bools) bools) (rng 256) = true := by decide +kernel
end Go.Ev.X
end
