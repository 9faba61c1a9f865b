/-
 Contracts of what reads and writes words and threads, of the program's memory.
-/
import Derived.Test.YtgaelfnoffejgaaMBa
import Derived.Test.YtgaelfnoffejgaaMBb
import Derived.Test.YtgaelfnoffejgaaMBc
set_option linter.unusedSimpArgs false
set_option linter.unusedVariables false
set_option maxRecDepth 100000
noncomputable section
namespace Go.Ev.X
open Go Go.Ev Go.Proofs
theorem b_mem (b : Bool) : b ∈ bools := by cases b <;> simp [bools]
theorem read_p {a : Nat} (ha : a < 512) (f : Nat → Int) : MemC PP cP 38 [.int .i64 a] f (.tuple #[.int .u64 (f a), .int .i64 0]) f 1 :=
 have h := smK_ok (rng_ok rdP_run a ha)
 read_c hcl h.1 h.2 f
theorem write_p {a : Nat} (ha : a < 512) (f : Nat → Int) (x : Int) : MemC PP cP 53 [.int .i64 a, .int .u64 x] f (.int .i64 0) (upd f a x) 1 :=
 have h := smK_ok (rng_ok wrP_run a ha)
 write_c hcl h.1 h.2 f x
end Go.Ev.X
end
