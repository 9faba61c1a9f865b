/-
  A piece of the law's run, over its calls.
-/
import Derived.Test.YtohbcccoemkmhaaGreatDoorGC0
import Derived.Test.YtohbcccoemkmhaaGreatDoorGC11
import Derived.Test.YtohbcccoemkmhaaGreatDoorAX
import Derived.Test.YtohbcccoemkmhaaGreatDoorTS
set_option linter.unusedSimpArgs false
set_option linter.unusedVariables false
set_option maxRecDepth 100000
noncomputable section
namespace Go.Ev.X
open Go Go.Ev
def gWay1 : CallT := (memoS gm0 (memoS gm11 callA))
theorem g_in1 : initFr argsT (fun fr => zIn ziT ⟨gWay1, 3, 20000⟩ fr ⟨.h, .h, .e⟩ ⟨[(geT, true)], []⟩ (fun fr h _ => nextK stT [(0, sgIn1)] fr h) (koB rsT)) = 0 := by decide +kernel
theorem gWay1_ok {E : Env} {P : Program} (hx : CxOk E P (tyOf P) cx1) (h1 : CallOk E P call1) (hA : CallOk E P callA) : CallOk E P gWay1 := (msS_ok rfl gt0 FaOk.nil h1 (msS_ok rfl gt11 FaOk.nil (gn11_ok hx h1) hA))
end Go.Ev.X
end
