/-
  A piece of the law's run, over its calls.
-/
import Derived.Test.YtohbcccoemkmhaaGreatDoorGC0
import Derived.Test.YtohbcccoemkmhaaGreatDoorGC11
import Derived.Test.YtohbcccoemkmhaaGreatDoorGC12
import Derived.Test.YtohbcccoemkmhaaGreatDoorGC14
import Derived.Test.YtohbcccoemkmhaaGreatDoorGC16
import Derived.Test.YtohbcccoemkmhaaGreatDoorGC17
import Derived.Test.YtohbcccoemkmhaaGreatDoorGC18
import Derived.Test.YtohbcccoemkmhaaGreatDoorGC19
import Derived.Test.YtohbcccoemkmhaaGreatDoorC21
set_option linter.unusedSimpArgs false
set_option linter.unusedVariables false
set_option maxRecDepth 100000
noncomputable section
namespace Go.Ev.X
open Go Go.Ev
def gIn0 : CallT := (memoS gm0 (memoS gm11 (memoS gm12 (memoS gm13 (memoS gm14 (memoS gm15 (memoS gm16 (memoS gm17 (memoS gm18 (memoS gm19 (memoS gm20 (memoS gm21 (memoS gm22 call1)))))))))))))
theorem g_run0 : callS cx1 0 gIn0 7 [] ⟨.h, .h, .e⟩ ⟨[], []⟩ endB = 0 := by decide +kernel
theorem gIn0_ok {E : Env} {P : Program} (hx : CxOk E P (tyOf P) cx1) (h1 : CallOk E P call1) : CallOk E P gIn0 := (msS_ok rfl gt0 FaOk.nil h1 (msS_ok rfl gt11 FaOk.nil (gn11_ok hx h1) (msS_ok rfl gt12 FaOk.nil h1 (msS_ok rfl gt13 FaOk.nil h1 (msS_ok rfl gt14 FaOk.nil h1 (msS_ok rfl gt15 FaOk.nil h1 (msS_ok rfl gt16 FaOk.nil h1 (msS_ok rfl gt17 FaOk.nil h1 (msS_ok rfl gt18 FaOk.nil h1 (msS_ok rfl gt19 FaOk.nil h1 (msS_ok rfl gt20 FaOk.nil h1 (msS_ok rfl gt21 FaOk.nil h1 (msS_ok rfl gt22 FaOk.nil h1 h1)))))))))))))
end Go.Ev.X
end
