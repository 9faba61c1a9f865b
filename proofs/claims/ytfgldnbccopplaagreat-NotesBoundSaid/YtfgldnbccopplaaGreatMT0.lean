/-
  A case of the law, over its calls.
-/
import Derived.Test.YtfgldnbccopplaaGreatMC0
import Derived.Test.YtfgldnbccopplaaGreatMC1
import Derived.Test.YtfgldnbccopplaaGreatMC5
import Derived.Test.YtfgldnbccopplaaGreatMC9
set_option linter.unusedSimpArgs false
set_option linter.unusedVariables false
set_option maxRecDepth 100000
noncomputable section
namespace Go.Ev.X
open Go Go.Ev
def mIn0 : CallT := (memoS mm0 (memoS mm1 (memoS mm2 (memoS mm3 (memoS mm4 (memoS mm5 (memoS mm6 (memoS mm7 (memoS mm8 (memoS mm9 (memoS mm10 (memoS mm11 call1))))))))))))
theorem m_run0 : callS cx1 0 mIn0 5 [] ⟨.h, .h, .e⟩ ⟨[], []⟩ endB = 0 := by decide +kernel
theorem mIn0_ok {E : Env} {P : Program} (hx : CxOk E P (tyOf P) cx1) (h1 : CallOk E P call1) (hl : CallOk E P call1) (hf : FaOk E ⟨[], []⟩) : CallOk E P mIn0 := (msS_ok rfl mt0 FaOk.nil h1 (msS_ok rfl mt1 FaOk.nil h1 (msS_ok rfl mt2 FaOk.nil h1 (msS_ok rfl mt3 FaOk.nil h1 (msS_ok rfl mt4 FaOk.nil h1 (msS_ok rfl mt5 FaOk.nil h1 (msS_ok rfl mt6 FaOk.nil h1 (msS_ok rfl mt7 FaOk.nil h1 (msS_ok rfl mt8 FaOk.nil h1 (msS_ok rfl mt9 FaOk.nil h1 (msS_ok rfl mt10 FaOk.nil h1 (msS_ok rfl mt11 FaOk.nil h1 hl))))))))))))
end Go.Ev.X
end
