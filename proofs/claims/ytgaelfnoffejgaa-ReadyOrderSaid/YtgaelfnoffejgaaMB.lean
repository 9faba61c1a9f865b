/-
 Contracts of what reads and writes words and threads, of the program's memory.
-/
import Derived.Test.YtgaelfnoffejgaaMBa
import Derived.Test.YtgaelfnoffejgaaMBb
import Derived.Test.YtgaelfnoffejgaaMBc
set_option linter.unusedSimpArgs false
set_option linter.unusedVariables false
set_option maxRecDepth 100000
noncomputable section
namespace Go.Ev.X
open Go Go.Ev Go.Proofs
def TT (t : Nat) : Prop := t = 1024 ∨ t = 1088 ∨ t = 1152 ∨ t = 1216 ∨ t = 1280 ∨ t = 1344 ∨ t = 1408 ∨ t = 1472
theorem TT_thr : Thr TT := ⟨fun t h => by unfold TT at h; omega, fun t h => by unfold TT at h; omega, fun t u h h2 h3 => by unfold TT at h h2; unfold Apart; omega⟩
theorem TT_mem {t : Nat} (h : TT t) : t ∈ thrL := by
 rcases h with rfl | rfl | rfl | rfl | rfl | rfl | rfl | rfl <;> simp [thrL]
theorem b_mem (b : Bool) : b ∈ bools := by cases b <;> simp [bools]
theorem read_p {a : Nat} (ha : a < 512) (f : Nat → Int) : MemC PP cP 38 [.int .i64 a] f (.tuple #[.int .u64 (f a), .int .i64 0]) f 1 :=
 have h := smK_ok (rng_ok rdP_run a ha)
 read_c hcl h.1 h.2 f
theorem write_p {a : Nat} (ha : a < 512) (f : Nat → Int) (x : Int) : MemC PP cP 53 [.int .i64 a, .int .u64 x] f (.int .i64 0) (upd f a x) 1 :=
 have h := smK_ok (rng_ok wrP_run a ha)
 write_c hcl h.1 h.2 f x
theorem thr_p {f : Nat → Int} {t : Nat} (ht : TT t) (h : RightAt f t) : MemC PP cP 13 [.int .i64 t] f (.tuple #[thV (getT f t) (regs f t), .int .i64 0]) f 20 :=
 have k := smK_ok (allB_ok thP_run t (TT_mem ht))
 thread_c hcl k.1 k.2 h
theorem sth_p {f : Nat → Int} {t : Nat} (ht : TT t) {v : TV} (h : v.Right) : MemC PP cP 28 [.int .i64 t, thV v (regs f t)] f (.int .i64 0) (setT f t v) 20 :=
 have k := smK_ok (allB_ok (allB_ok (allB_ok (allB_ok stP_run t (TT_mem ht)) v.q (b_mem _)) v.g (b_mem _)) v.c (b_mem _))
 setThread_c hcl k.1 k.2 h
end Go.Ev.X
end
