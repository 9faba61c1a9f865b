/-
  A case of the law, over its calls.
-/
import Derived.Test.YtapeacnagpphjaaGreatMC0
import Derived.Test.YtapeacnagpphjaaGreatMC1
import Derived.Test.YtapeacnagpphjaaGreatMC35
import Derived.Test.YtapeacnagpphjaaGreatMC38
import Derived.Test.YtapeacnagpphjaaGreatMC41
import Derived.Test.YtapeacnagpphjaaGreatMC44
import Derived.Test.YtapeacnagpphjaaGreatMC47
import Derived.Test.YtapeacnagpphjaaGreatMC50
import Derived.Test.YtapeacnagpphjaaGreatMC55
import Derived.Test.YtapeacnagpphjaaGreatMC58
import Derived.Test.YtapeacnagpphjaaGreatMC62
import Derived.Test.YtapeacnagpphjaaGreatMC65
import Derived.Test.YtapeacnagpphjaaGreatMC68
import Derived.Test.YtapeacnagpphjaaGreatMC71
import Derived.Test.YtapeacnagpphjaaGreatAX
set_option linter.unusedSimpArgs false
set_option linter.unusedVariables false
set_option maxRecDepth 100000
noncomputable section
namespace Go.Ev.X
open Go Go.Ev
def mIn9 : CallT := (memoS mm0 (memoS mm1 (memoS mm2 (memoS mm3 (memoS mm4 (memoS mm5 (memoS mm6 (memoS mm7 (memoS mm8 (memoS mm9 (memoS mm10 (memoS mm11 (memoS mm12 (memoS mm13 (memoS mm14 (memoS mm15 (memoS mm16 (memoS mm17 (memoS mm18 (memoS mm19 (memoS mm20 (memoS mm21 (memoS mm22 (memoS mm23 (memoS mm24 (memoS mm25 (memoS mm26 (memoS mm27 (memoS mm28 (memoS mm29 (memoS mm30 (memoS mm31 (memoS mm32 (memoS mm33 (memoS mm34 (memoS mm53 (memoS mm54 (memoS mm55 (memoS mm56 (memoS mm57 (memoS mm58 (memoS mm71 (memoS mm72 (memoS mm73 callA))))))))))))))))))))))))))))))))))))))))))))
theorem m_run9 : callS cx1 0 mIn9 4 (argsM false) ⟨.h, .h, .e⟩ ⟨flM4, rrM⟩ endB = 0 := by decide +kernel
theorem mIn9_ok {E : Env} {P : Program} (h1 : CallOk E P call1) (hl : CallOk E P callA) (hc : FaOk E ⟨flM, rrM⟩) (hf : FaOk E ⟨flM4, rrM⟩) : CallOk E P mIn9 := (msS_ok rfl mt0 FaOk.nil h1 (msS_ok rfl mt1 hc h1 (msS_ok rfl mt2 hc h1 (msS_ok rfl mt3 hc h1 (msS_ok rfl mt4 hc h1 (msS_ok rfl mt5 hc h1 (msS_ok rfl mt6 hc h1 (msS_ok rfl mt7 hc h1 (msS_ok rfl mt8 hc h1 (msS_ok rfl mt9 hc h1 (msS_ok rfl mt10 hc h1 (msS_ok rfl mt11 hc h1 (msS_ok rfl mt12 hc h1 (msS_ok rfl mt13 hc h1 (msS_ok rfl mt14 hc h1 (msS_ok rfl mt15 hc h1 (msS_ok rfl mt16 hc h1 (msS_ok rfl mt17 hc h1 (msS_ok rfl mt18 hc h1 (msS_ok rfl mt19 hc h1 (msS_ok rfl mt20 hc h1 (msS_ok rfl mt21 hc h1 (msS_ok rfl mt22 hc h1 (msS_ok rfl mt23 hc h1 (msS_ok rfl mt24 hc h1 (msS_ok rfl mt25 hc h1 (msS_ok rfl mt26 hc h1 (msS_ok rfl mt27 hc h1 (msS_ok rfl mt28 hc h1 (msS_ok rfl mt29 hc h1 (msS_ok rfl mt30 hc h1 (msS_ok rfl mt31 hc h1 (msS_ok rfl mt32 hc h1 (msS_ok rfl mt33 hc h1 (msS_ok rfl mt34 hc h1 (msS_ok rfl mt53 hc h1 (msS_ok rfl mt54 hc h1 (msS_ok rfl mt55 hc h1 (msS_ok rfl mt56 hc h1 (msS_ok rfl mt57 hc h1 (msS_ok rfl mt58 hc h1 (msS_ok rfl mt71 hf h1 (msS_ok rfl mt72 hf h1 (msS_ok rfl mt73 hf h1 hl))))))))))))))))))))))))))))))))))))))))))))
end Go.Ev.X
end
/-
  A case of the law, over its calls.
-/
set_option linter.unusedSimpArgs false
set_option linter.unusedVariables false
set_option maxRecDepth 100000
noncomputable section
namespace Go.Ev.X
open Go Go.Ev
def mIn10 : CallT := (memoS mm0 callA)
theorem m_run10 : callS cx1 0 mIn10 4 (argsM true) ⟨.h, .h, .e⟩ ⟨[], rrMn⟩ endB = 0 := by decide +kernel
theorem mIn10_ok {E : Env} {P : Program} (h1 : CallOk E P call1) (hl : CallOk E P callA) (hf : FaOk E ⟨[], rrMn⟩) : CallOk E P mIn10 := (msS_ok rfl mt0 FaOk.nil h1 hl)
end Go.Ev.X
end
/-
  A case of the law, over its calls.
-/
set_option linter.unusedSimpArgs false
set_option linter.unusedVariables false
set_option maxRecDepth 100000
noncomputable section
namespace Go.Ev.X
open Go Go.Ev
def mIn11 : CallT := (memoS mm0 callA)
theorem m_run11 : callS cx1 0 mIn11 4 (argsM false) ⟨.h, .h, .e⟩ ⟨[], rrMn⟩ endB = 0 := by decide +kernel
theorem mIn11_ok {E : Env} {P : Program} (h1 : CallOk E P call1) (hl : CallOk E P callA) (hf : FaOk E ⟨[], rrMn⟩) : CallOk E P mIn11 := (msS_ok rfl mt0 FaOk.nil h1 hl)
end Go.Ev.X
end
