/-
  A case of the law, over its calls.
-/
import Derived.Test.YtohbcccoemkmhaaGreatDoorMC0
import Derived.Test.YtohbcccoemkmhaaGreatDoorMC11
import Derived.Test.YtohbcccoemkmhaaGreatDoorMC12
import Derived.Test.YtohbcccoemkmhaaGreatDoorMC22
import Derived.Test.YtohbcccoemkmhaaGreatDoorMC24
import Derived.Test.YtohbcccoemkmhaaGreatDoorAX
set_option linter.unusedSimpArgs false
set_option linter.unusedVariables false
set_option maxRecDepth 100000
noncomputable section
namespace Go.Ev.X
open Go Go.Ev
def mIn1 : CallT := (memoS mm0 (memoS mm11 (memoS mm12 (memoS mm23 (memoS mm24 (memoS mm25 callA))))))
theorem m_run1 : callS cx1 0 mIn1 4 argsU ⟨.h, .h, .e⟩ ⟨flU, rrU0⟩ endB = 0 := by decide +kernel
theorem mIn1_ok {E : Env} {P : Program} (hx : CxOk E P (tyOf P) cx1) (h1 : CallOk E P call1) (hl : CallOk E P callA) (hc : FaOk E ⟨flU, []⟩) (hf : FaOk E ⟨flU, rrU0⟩) : CallOk E P mIn1 := (msS_ok rfl mt0 FaOk.nil h1 (msS_ok rfl mt11 FaOk.nil (mn11_ok hx h1) (msS_ok rfl mt12 FaOk.nil h1 (msS_ok rfl mt23 hc h1 (msS_ok rfl mt24 hc h1 (msS_ok rfl mt25 FaOk.nil h1 hl))))))
end Go.Ev.X
end
