/-
  A case of the law, over its calls.
-/
import Derived.Test.YtfgldnbccopplaaGreatMC0
import Derived.Test.YtfgldnbccopplaaGreatMC9
import Derived.Test.YtfgldnbccopplaaGreatMC13
import Derived.Test.YtfgldnbccopplaaGreatMC22
import Derived.Test.YtfgldnbccopplaaGreatMC27
import Derived.Test.YtfgldnbccopplaaGreatAX
set_option linter.unusedSimpArgs false
set_option linter.unusedVariables false
set_option maxRecDepth 100000
noncomputable section
namespace Go.Ev.X
open Go Go.Ev
def mIn4 : CallT := (memoS mm0 (memoS mm12 (memoS mm13 (memoS mm14 (memoS mm15 (memoS mm22 (memoS mm23 (memoS mm24 (memoS mm25 (memoS mm26 (memoS mm27 callA)))))))))))
theorem m_run4 : callS cx1 0 mIn4 4 argsB ⟨.h, .h, .e⟩ ⟨flB110, rrB⟩ endB = 0 := by decide +kernel
theorem mIn4_ok {E : Env} {P : Program} (hx : CxOk E P (tyOf P) cx1) (h1 : CallOk E P call1) (hl : CallOk E P callA) (hf : FaOk E ⟨flB110, rrB⟩) : CallOk E P mIn4 := (msS_ok rfl mt0 FaOk.nil h1 (msS_ok rfl mt12 FaOk.nil h1 (msS_ok rfl mt13 FaOk.nil h1 (msS_ok rfl mt14 FaOk.nil h1 (msS_ok rfl mt15 FaOk.nil h1 (msS_ok rfl mt22 FaOk.nil h1 (msS_ok rfl mt23 FaOk.nil h1 (msS_ok rfl mt24 FaOk.nil h1 (msS_ok rfl mt25 FaOk.nil h1 (msS_ok rfl mt26 FaOk.nil h1 (msS_ok rfl mt27 FaOk.nil h1 hl)))))))))))
end Go.Ev.X
end
