/-
  A case of the law, over its calls.
-/
import Derived.Test.YtfgldnbccopplaaGreatMC0
import Derived.Test.YtfgldnbccopplaaGreatMC9
import Derived.Test.YtfgldnbccopplaaGreatMC13
import Derived.Test.YtfgldnbccopplaaGreatMC32
import Derived.Test.YtfgldnbccopplaaGreatMC37
import Derived.Test.YtfgldnbccopplaaGreatAX
set_option linter.unusedSimpArgs false
set_option linter.unusedVariables false
set_option maxRecDepth 100000
noncomputable section
namespace Go.Ev.X
open Go Go.Ev
def mIn6 : CallT := (memoS mm0 (memoS mm12 (memoS mm13 (memoS mm14 (memoS mm15 (memoS mm34 (memoS mm35 (memoS mm36 (memoS mm37 (memoS mm38 (memoS mm39 callA)))))))))))
theorem m_run6 : callS cx1 0 mIn6 4 argsB ⟨.h, .h, .e⟩ ⟨flB011, rrB⟩ endB = 0 := by decide +kernel
theorem mIn6_ok {E : Env} {P : Program} (hx : CxOk E P (tyOf P) cx1) (h1 : CallOk E P call1) (hl : CallOk E P callA) (hf : FaOk E ⟨flB011, rrB⟩) : CallOk E P mIn6 := (msS_ok rfl mt0 FaOk.nil h1 (msS_ok rfl mt12 FaOk.nil h1 (msS_ok rfl mt13 FaOk.nil h1 (msS_ok rfl mt14 FaOk.nil h1 (msS_ok rfl mt15 FaOk.nil h1 (msS_ok rfl mt34 FaOk.nil h1 (msS_ok rfl mt35 FaOk.nil h1 (msS_ok rfl mt36 FaOk.nil h1 (msS_ok rfl mt37 FaOk.nil h1 (msS_ok rfl mt38 FaOk.nil h1 (msS_ok rfl mt39 FaOk.nil h1 hl)))))))))))
end Go.Ev.X
end
