/-
 The same of the document's.
-/
import Derived.Test.YtgaelfnoffejgaaMB
import Derived.Test.YtgaelfnoffejgaaE6
import Derived.Test.YtgaelfnoffejgaaMBd
import Derived.Test.YtgaelfnoffejgaaMBe
import Derived.Test.YtgaelfnoffejgaaMBf
set_option linter.unusedSimpArgs false
set_option linter.unusedVariables false
set_option maxRecDepth 100000
noncomputable section
namespace Go.Ev.X
open Go Go.Ev Go.Proofs
theorem read_r {a : Nat} (ha : a < 512) (f : Nat → Int) : MemC PP cR 66 [.int .i64 a] f (.tuple #[.int .u64 (f a), .int .i64 0]) f 1 :=
 have h := smK_ok (rng_ok rdR_run a ha)
 read_c hcl h.1 h.2 f
theorem write_r {a : Nat} (ha : a < 512) (f : Nat → Int) (x : Int) : MemC PP cR 57 [.int .i64 a, .int .u64 x] f (.int .i64 0) (upd f a x) 1 :=
 have h := smK_ok (rng_ok wrR_run a ha)
 write_c hcl h.1 h.2 f x
theorem thr_r {f : Nat → Int} {t : Nat} (ht : TT t) (h : RightAt f t) : MemC PP cR 48 [.int .i64 t] f (.tuple #[thV (getT f t) (regs f t), .int .i64 0]) f 20 :=
 have k := smK_ok (allB_ok (allB_ok (allB_ok (allB_ok thR_run t (TT_mem ht)) (getT f t).q (b_mem _)) (getT f t).g (b_mem _)) (getT f t).c (b_mem _))
 thread_d hcl k.1 k.2 h
theorem sth_r {f : Nat → Int} {t : Nat} (ht : TT t) {v : TV} (h : v.Right) : MemC PP cR 29 [.int .i64 t, thV v (regs f t)] f (.int .i64 0) (setT f t v) 20 :=
 have k := smK_ok (allB_ok (allB_ok (allB_ok (allB_ok stR_run t (TT_mem ht)) v.q (b_mem _)) v.g (b_mem _)) v.c (b_mem _))
 setThread_d hcl k.1 k.2 h
end Go.Ev.X
end
