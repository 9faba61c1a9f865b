/-
  A case of the law, over its calls.
-/
import Derived.Test.YtapeacnagpphjaaGreatMC0
import Derived.Test.YtapeacnagpphjaaGreatMC1
import Derived.Test.YtapeacnagpphjaaGreatMC35
import Derived.Test.YtapeacnagpphjaaGreatMC38
import Derived.Test.YtapeacnagpphjaaGreatMC41
import Derived.Test.YtapeacnagpphjaaGreatMC44
import Derived.Test.YtapeacnagpphjaaGreatMC47
import Derived.Test.YtapeacnagpphjaaGreatMC50
import Derived.Test.YtapeacnagpphjaaGreatMC55
import Derived.Test.YtapeacnagpphjaaGreatMC58
import Derived.Test.YtapeacnagpphjaaGreatMC62
import Derived.Test.YtapeacnagpphjaaGreatMC65
import Derived.Test.YtapeacnagpphjaaGreatMC68
import Derived.Test.YtapeacnagpphjaaGreatMC71
import Derived.Test.YtapeacnagpphjaaGreatAX
set_option linter.unusedSimpArgs false
set_option linter.unusedVariables false
set_option maxRecDepth 100000
noncomputable section
namespace Go.Ev.X
open Go Go.Ev
def mIn3 : CallT := (memoS mm0 (memoS mm1 (memoS mm2 (memoS mm3 (memoS mm4 (memoS mm5 (memoS mm6 (memoS mm7 (memoS mm8 (memoS mm9 (memoS mm10 (memoS mm11 (memoS mm12 (memoS mm13 (memoS mm14 (memoS mm15 (memoS mm16 (memoS mm17 (memoS mm18 (memoS mm19 (memoS mm20 (memoS mm21 (memoS mm22 (memoS mm23 (memoS mm24 (memoS mm25 (memoS mm26 (memoS mm27 (memoS mm28 (memoS mm29 (memoS mm30 (memoS mm31 (memoS mm32 (memoS mm33 (memoS mm34 (memoS mm35 (memoS mm36 (memoS mm37 (memoS mm47 (memoS mm48 (memoS mm49 callA)))))))))))))))))))))))))))))))))))))))))
theorem m_run3 : callS cx1 0 mIn3 4 (argsM true) ⟨.h, .h, .e⟩ ⟨flM3, rrM⟩ endB = 0 := by decide +kernel
theorem mIn3_ok {E : Env} {P : Program} (h1 : CallOk E P call1) (hl : CallOk E P callA) (hc : FaOk E ⟨flM, rrM⟩) (hf : FaOk E ⟨flM3, rrM⟩) : CallOk E P mIn3 := (msS_ok rfl mt0 FaOk.nil h1 (msS_ok rfl mt1 hc h1 (msS_ok rfl mt2 hc h1 (msS_ok rfl mt3 hc h1 (msS_ok rfl mt4 hc h1 (msS_ok rfl mt5 hc h1 (msS_ok rfl mt6 hc h1 (msS_ok rfl mt7 hc h1 (msS_ok rfl mt8 hc h1 (msS_ok rfl mt9 hc h1 (msS_ok rfl mt10 hc h1 (msS_ok rfl mt11 hc h1 (msS_ok rfl mt12 hc h1 (msS_ok rfl mt13 hc h1 (msS_ok rfl mt14 hc h1 (msS_ok rfl mt15 hc h1 (msS_ok rfl mt16 hc h1 (msS_ok rfl mt17 hc h1 (msS_ok rfl mt18 hc h1 (msS_ok rfl mt19 hc h1 (msS_ok rfl mt20 hc h1 (msS_ok rfl mt21 hc h1 (msS_ok rfl mt22 hc h1 (msS_ok rfl mt23 hc h1 (msS_ok rfl mt24 hc h1 (msS_ok rfl mt25 hc h1 (msS_ok rfl mt26 hc h1 (msS_ok rfl mt27 hc h1 (msS_ok rfl mt28 hc h1 (msS_ok rfl mt29 hc h1 (msS_ok rfl mt30 hc h1 (msS_ok rfl mt31 hc h1 (msS_ok rfl mt32 hc h1 (msS_ok rfl mt33 hc h1 (msS_ok rfl mt34 hc h1 (msS_ok rfl mt35 hc h1 (msS_ok rfl mt36 hc h1 (msS_ok rfl mt37 hc h1 (msS_ok rfl mt47 hf h1 (msS_ok rfl mt48 hf h1 (msS_ok rfl mt49 hf h1 hl)))))))))))))))))))))))))))))))))))))))))
end Go.Ev.X
end
/-
  A case of the law, over its calls.
-/
set_option linter.unusedSimpArgs false
set_option linter.unusedVariables false
set_option maxRecDepth 100000
noncomputable section
namespace Go.Ev.X
open Go Go.Ev
def mIn4 : CallT := (memoS mm0 (memoS mm1 (memoS mm2 (memoS mm3 (memoS mm4 (memoS mm5 (memoS mm6 (memoS mm7 (memoS mm8 (memoS mm9 (memoS mm10 (memoS mm11 (memoS mm12 (memoS mm13 (memoS mm14 (memoS mm15 (memoS mm16 (memoS mm17 (memoS mm18 (memoS mm19 (memoS mm20 (memoS mm21 (memoS mm22 (memoS mm23 (memoS mm24 (memoS mm25 (memoS mm26 (memoS mm27 (memoS mm28 (memoS mm29 (memoS mm30 (memoS mm31 (memoS mm32 (memoS mm33 (memoS mm34 (memoS mm35 (memoS mm36 (memoS mm37 (memoS mm50 (memoS mm51 (memoS mm52 callA)))))))))))))))))))))))))))))))))))))))))
theorem m_run4 : callS cx1 0 mIn4 4 (argsM true) ⟨.h, .h, .e⟩ ⟨flM4, rrM⟩ endB = 0 := by decide +kernel
theorem mIn4_ok {E : Env} {P : Program} (h1 : CallOk E P call1) (hl : CallOk E P callA) (hc : FaOk E ⟨flM, rrM⟩) (hf : FaOk E ⟨flM4, rrM⟩) : CallOk E P mIn4 := (msS_ok rfl mt0 FaOk.nil h1 (msS_ok rfl mt1 hc h1 (msS_ok rfl mt2 hc h1 (msS_ok rfl mt3 hc h1 (msS_ok rfl mt4 hc h1 (msS_ok rfl mt5 hc h1 (msS_ok rfl mt6 hc h1 (msS_ok rfl mt7 hc h1 (msS_ok rfl mt8 hc h1 (msS_ok rfl mt9 hc h1 (msS_ok rfl mt10 hc h1 (msS_ok rfl mt11 hc h1 (msS_ok rfl mt12 hc h1 (msS_ok rfl mt13 hc h1 (msS_ok rfl mt14 hc h1 (msS_ok rfl mt15 hc h1 (msS_ok rfl mt16 hc h1 (msS_ok rfl mt17 hc h1 (msS_ok rfl mt18 hc h1 (msS_ok rfl mt19 hc h1 (msS_ok rfl mt20 hc h1 (msS_ok rfl mt21 hc h1 (msS_ok rfl mt22 hc h1 (msS_ok rfl mt23 hc h1 (msS_ok rfl mt24 hc h1 (msS_ok rfl mt25 hc h1 (msS_ok rfl mt26 hc h1 (msS_ok rfl mt27 hc h1 (msS_ok rfl mt28 hc h1 (msS_ok rfl mt29 hc h1 (msS_ok rfl mt30 hc h1 (msS_ok rfl mt31 hc h1 (msS_ok rfl mt32 hc h1 (msS_ok rfl mt33 hc h1 (msS_ok rfl mt34 hc h1 (msS_ok rfl mt35 hc h1 (msS_ok rfl mt36 hc h1 (msS_ok rfl mt37 hc h1 (msS_ok rfl mt50 hf h1 (msS_ok rfl mt51 hf h1 (msS_ok rfl mt52 hf h1 hl)))))))))))))))))))))))))))))))))))))))))
end Go.Ev.X
end
/-
  A case of the law, over its calls.
-/
set_option linter.unusedSimpArgs false
set_option linter.unusedVariables false
set_option maxRecDepth 100000
noncomputable section
namespace Go.Ev.X
open Go Go.Ev
def mIn5 : CallT := (memoS mm0 (memoS mm1 (memoS mm2 (memoS mm3 (memoS mm4 (memoS mm5 (memoS mm6 (memoS mm7 (memoS mm8 (memoS mm9 (memoS mm10 (memoS mm11 (memoS mm12 (memoS mm13 (memoS mm14 (memoS mm15 (memoS mm16 (memoS mm17 (memoS mm18 (memoS mm19 (memoS mm20 (memoS mm21 (memoS mm22 (memoS mm23 (memoS mm24 (memoS mm25 (memoS mm26 (memoS mm27 (memoS mm28 (memoS mm29 (memoS mm30 (memoS mm31 (memoS mm32 (memoS mm33 (memoS mm34 (memoS mm53 (memoS mm54 (memoS mm55 (memoS mm56 (memoS mm57 (memoS mm58 (memoS mm59 (memoS mm60 (memoS mm61 callA))))))))))))))))))))))))))))))))))))))))))))
theorem m_run5 : callS cx1 0 mIn5 4 (argsM false) ⟨.h, .h, .e⟩ ⟨flM0, rrM⟩ endB = 0 := by decide +kernel
theorem mIn5_ok {E : Env} {P : Program} (h1 : CallOk E P call1) (hl : CallOk E P callA) (hc : FaOk E ⟨flM, rrM⟩) (hf : FaOk E ⟨flM0, rrM⟩) : CallOk E P mIn5 := (msS_ok rfl mt0 FaOk.nil h1 (msS_ok rfl mt1 hc h1 (msS_ok rfl mt2 hc h1 (msS_ok rfl mt3 hc h1 (msS_ok rfl mt4 hc h1 (msS_ok rfl mt5 hc h1 (msS_ok rfl mt6 hc h1 (msS_ok rfl mt7 hc h1 (msS_ok rfl mt8 hc h1 (msS_ok rfl mt9 hc h1 (msS_ok rfl mt10 hc h1 (msS_ok rfl mt11 hc h1 (msS_ok rfl mt12 hc h1 (msS_ok rfl mt13 hc h1 (msS_ok rfl mt14 hc h1 (msS_ok rfl mt15 hc h1 (msS_ok rfl mt16 hc h1 (msS_ok rfl mt17 hc h1 (msS_ok rfl mt18 hc h1 (msS_ok rfl mt19 hc h1 (msS_ok rfl mt20 hc h1 (msS_ok rfl mt21 hc h1 (msS_ok rfl mt22 hc h1 (msS_ok rfl mt23 hc h1 (msS_ok rfl mt24 hc h1 (msS_ok rfl mt25 hc h1 (msS_ok rfl mt26 hc h1 (msS_ok rfl mt27 hc h1 (msS_ok rfl mt28 hc h1 (msS_ok rfl mt29 hc h1 (msS_ok rfl mt30 hc h1 (msS_ok rfl mt31 hc h1 (msS_ok rfl mt32 hc h1 (msS_ok rfl mt33 hc h1 (msS_ok rfl mt34 hc h1 (msS_ok rfl mt53 hc h1 (msS_ok rfl mt54 hc h1 (msS_ok rfl mt55 hc h1 (msS_ok rfl mt56 hc h1 (msS_ok rfl mt57 hc h1 (msS_ok rfl mt58 hc h1 (msS_ok rfl mt59 hf h1 (msS_ok rfl mt60 hf h1 (msS_ok rfl mt61 hf h1 hl))))))))))))))))))))))))))))))))))))))))))))
end Go.Ev.X
end
