/-
 The same of the document's.
-/
import Derived.Test.YtgaelfnoffejgaaMB
import Derived.Test.YtgaelfnoffejgaaE6
import Derived.Test.YtgaelfnoffejgaaMBd
import Derived.Test.YtgaelfnoffejgaaMBe
import Derived.Test.YtgaelfnoffejgaaMBf
set_option linter.unusedSimpArgs false
set_option linter.unusedVariables false
set_option maxRecDepth 100000
noncomputable section
namespace Go.Ev.X
open Go Go.Ev Go.Proofs
theorem sth_r {f : Nat → Int} {t : Nat} (ht : TT t) {v : TV} (h : v.Right) : MemC PP cR 29 [.int .i64 t, thV v (regs f t)] f (.int .i64 0) (setT f t v) 20 :=
 have k := smK_ok (allB_ok (allB_ok (allB_ok (allB_ok stR_run t (TT_mem ht)) v.q (b_mem _)) v.g (b_mem _)) v.c (b_mem _))
 setThread_d hcl k.1 k.2 h
end Go.Ev.X
end
