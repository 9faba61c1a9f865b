/-
  A case of the law, over its calls.
-/
import Derived.Test.YtohbcccoemkmhaaGreatDoorMC0
import Derived.Test.YtohbcccoemkmhaaGreatDoorMC11
import Derived.Test.YtohbcccoemkmhaaGreatDoorMC12
import Derived.Test.YtohbcccoemkmhaaGreatDoorMC14
import Derived.Test.YtohbcccoemkmhaaGreatDoorMC16
import Derived.Test.YtohbcccoemkmhaaGreatDoorMC18
import Derived.Test.YtohbcccoemkmhaaGreatDoorMC20
import Derived.Test.YtohbcccoemkmhaaGreatDoorMC22
set_option linter.unusedSimpArgs false
set_option linter.unusedVariables false
set_option maxRecDepth 100000
noncomputable section
namespace Go.Ev.X
open Go Go.Ev
def mIn0 : CallT := (memoS mm0 (memoS mm11 (memoS mm12 (memoS mm13 (memoS mm14 (memoS mm15 (memoS mm16 (memoS mm17 (memoS mm18 (memoS mm19 (memoS mm20 (memoS mm21 (memoS mm22 call1)))))))))))))
theorem m_run0 : callS cx1 0 mIn0 7 [] ⟨.h, .h, .e⟩ ⟨[], []⟩ endB = 0 := by decide +kernel
theorem mIn0_ok {E : Env} {P : Program} (hx : CxOk E P (tyOf P) cx1) (h1 : CallOk E P call1) (hl : CallOk E P call1) (hf : FaOk E ⟨[], []⟩) : CallOk E P mIn0 := (msS_ok rfl mt0 FaOk.nil h1 (msS_ok rfl mt11 FaOk.nil (mn11_ok hx h1) (msS_ok rfl mt12 FaOk.nil h1 (msS_ok rfl mt13 FaOk.nil h1 (msS_ok rfl mt14 FaOk.nil h1 (msS_ok rfl mt15 FaOk.nil h1 (msS_ok rfl mt16 FaOk.nil h1 (msS_ok rfl mt17 FaOk.nil h1 (msS_ok rfl mt18 FaOk.nil h1 (msS_ok rfl mt19 FaOk.nil h1 (msS_ok rfl mt20 FaOk.nil h1 (msS_ok rfl mt21 FaOk.nil h1 (msS_ok rfl mt22 FaOk.nil h1 hl)))))))))))))
end Go.Ev.X
end
