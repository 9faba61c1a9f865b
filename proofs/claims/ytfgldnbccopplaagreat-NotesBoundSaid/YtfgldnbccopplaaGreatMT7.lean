/-
  A case of the law, over its calls.
-/
import Derived.Test.YtfgldnbccopplaaGreatMC0
import Derived.Test.YtfgldnbccopplaaGreatMC9
import Derived.Test.YtfgldnbccopplaaGreatMC13
import Derived.Test.YtfgldnbccopplaaGreatMC27
import Derived.Test.YtfgldnbccopplaaGreatMC32
import Derived.Test.YtfgldnbccopplaaGreatAX
set_option linter.unusedSimpArgs false
set_option linter.unusedVariables false
set_option maxRecDepth 100000
noncomputable section
namespace Go.Ev.X
open Go Go.Ev
def mIn7 : CallT := (memoS mm0 (memoS mm12 (memoS mm13 (memoS mm14 (memoS mm15 (memoS mm28 (memoS mm29 (memoS mm30 (memoS mm31 (memoS mm32 (memoS mm33 callA)))))))))))
theorem m_run7 : callS cx1 0 mIn7 4 argsB ⟨.h, .h, .e⟩ ⟨flB101, rrB⟩ endB = 0 := by decide +kernel
theorem mIn7_ok {E : Env} {P : Program} (hx : CxOk E P (tyOf P) cx1) (h1 : CallOk E P call1) (hl : CallOk E P callA) (hf : FaOk E ⟨flB101, rrB⟩) : CallOk E P mIn7 := (msS_ok rfl mt0 FaOk.nil h1 (msS_ok rfl mt12 FaOk.nil h1 (msS_ok rfl mt13 FaOk.nil h1 (msS_ok rfl mt14 FaOk.nil h1 (msS_ok rfl mt15 FaOk.nil h1 (msS_ok rfl mt28 FaOk.nil h1 (msS_ok rfl mt29 FaOk.nil h1 (msS_ok rfl mt30 FaOk.nil h1 (msS_ok rfl mt31 FaOk.nil h1 (msS_ok rfl mt32 FaOk.nil h1 (msS_ok rfl mt33 FaOk.nil h1 hl)))))))))))
end Go.Ev.X
end
