/-
  A case of the law, over its calls.
-/
import Derived.Test.YtfgldnbccopplaaGreatMC0
import Derived.Test.YtfgldnbccopplaaGreatMC9
import Derived.Test.YtfgldnbccopplaaGreatMC13
import Derived.Test.YtfgldnbccopplaaGreatMC17
import Derived.Test.YtfgldnbccopplaaGreatAX
set_option linter.unusedSimpArgs false
set_option linter.unusedVariables false
set_option maxRecDepth 100000
noncomputable section
namespace Go.Ev.X
open Go Go.Ev
def mIn3 : CallT := (memoS mm0 (memoS mm12 (memoS mm13 (memoS mm14 (memoS mm15 (memoS mm16 (memoS mm17 (memoS mm18 (memoS mm19 (memoS mm20 (memoS mm21 callA)))))))))))
theorem m_run3 : callS cx1 0 mIn3 4 argsB ⟨.h, .h, .e⟩ ⟨flB100, rrB⟩ endB = 0 := by decide +kernel
theorem mIn3_ok {E : Env} {P : Program} (hx : CxOk E P (tyOf P) cx1) (h1 : CallOk E P call1) (hl : CallOk E P callA) (hf : FaOk E ⟨flB100, rrB⟩) : CallOk E P mIn3 := (msS_ok rfl mt0 FaOk.nil h1 (msS_ok rfl mt12 FaOk.nil h1 (msS_ok rfl mt13 FaOk.nil h1 (msS_ok rfl mt14 FaOk.nil h1 (msS_ok rfl mt15 FaOk.nil h1 (msS_ok rfl mt16 FaOk.nil h1 (msS_ok rfl mt17 FaOk.nil h1 (msS_ok rfl mt18 FaOk.nil h1 (msS_ok rfl mt19 FaOk.nil h1 (msS_ok rfl mt20 FaOk.nil h1 (msS_ok rfl mt21 FaOk.nil h1 hl)))))))))))
end Go.Ev.X
end
