/-
  A case of the law, over its calls.
-/
import Derived.Test.YtohbcccoemkmhaaGreatDoorMC0
import Derived.Test.YtohbcccoemkmhaaGreatDoorMC11
import Derived.Test.YtohbcccoemkmhaaGreatDoorAX
set_option linter.unusedSimpArgs false
set_option linter.unusedVariables false
set_option maxRecDepth 100000
noncomputable section
namespace Go.Ev.X
open Go Go.Ev
def mIn2 : CallT := (memoS mm0 (memoS mm11 callA))
theorem m_run2 : callS cx1 0 mIn2 4 argsU ⟨.h, .h, .e⟩ ⟨[], rrU1⟩ endB = 0 := by decide +kernel
theorem mIn2_ok {E : Env} {P : Program} (hx : CxOk E P (tyOf P) cx1) (h1 : CallOk E P call1) (hl : CallOk E P callA) (hf : FaOk E ⟨[], rrU1⟩) : CallOk E P mIn2 := (msS_ok rfl mt0 FaOk.nil h1 (msS_ok rfl mt11 FaOk.nil (mn11_ok hx h1) hl))
end Go.Ev.X
end
