/-
  A case of the law, over its calls.
-/
import Derived.Test.YtapeacnagpphjaaGreatMC0
import Derived.Test.YtapeacnagpphjaaGreatMC1
import Derived.Test.YtapeacnagpphjaaGreatMC35
import Derived.Test.YtapeacnagpphjaaGreatMC38
import Derived.Test.YtapeacnagpphjaaGreatMC41
import Derived.Test.YtapeacnagpphjaaGreatMC44
import Derived.Test.YtapeacnagpphjaaGreatMC47
import Derived.Test.YtapeacnagpphjaaGreatMC50
import Derived.Test.YtapeacnagpphjaaGreatMC55
import Derived.Test.YtapeacnagpphjaaGreatMC58
import Derived.Test.YtapeacnagpphjaaGreatMC62
import Derived.Test.YtapeacnagpphjaaGreatMC65
import Derived.Test.YtapeacnagpphjaaGreatMC68
import Derived.Test.YtapeacnagpphjaaGreatMC71
import Derived.Test.YtapeacnagpphjaaGreatAX
set_option linter.unusedSimpArgs false
set_option linter.unusedVariables false
set_option maxRecDepth 100000
noncomputable section
namespace Go.Ev.X
open Go Go.Ev
def mIn12 : CallT := (memoS mm0 callA)
theorem m_run12 : callS cx1 0 mIn12 4 (argsM true) ⟨.h, .h, .e⟩ ⟨[], rrMb⟩ endB = 0 := by decide +kernel
theorem mIn12_ok {E : Env} {P : Program} (h1 : CallOk E P call1) (hl : CallOk E P callA) (hf : FaOk E ⟨[], rrMb⟩) : CallOk E P mIn12 := (msS_ok rfl mt0 FaOk.nil h1 hl)
end Go.Ev.X
end
/-
  A case of the law, over its calls.
-/
set_option linter.unusedSimpArgs false
set_option linter.unusedVariables false
set_option maxRecDepth 100000
noncomputable section
namespace Go.Ev.X
open Go Go.Ev
def mIn13 : CallT := (memoS mm0 callA)
theorem m_run13 : callS cx1 0 mIn13 4 (argsM false) ⟨.h, .h, .e⟩ ⟨[], rrMb⟩ endB = 0 := by decide +kernel
theorem mIn13_ok {E : Env} {P : Program} (h1 : CallOk E P call1) (hl : CallOk E P callA) (hf : FaOk E ⟨[], rrMb⟩) : CallOk E P mIn13 := (msS_ok rfl mt0 FaOk.nil h1 hl)
end Go.Ev.X
end
