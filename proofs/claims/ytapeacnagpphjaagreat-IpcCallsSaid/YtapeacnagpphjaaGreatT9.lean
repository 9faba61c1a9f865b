/-
  A case of the law, over its calls.
-/
import Derived.Test.YtapeacnagpphjaaGreatNC0
import Derived.Test.YtapeacnagpphjaaGreatNC1
import Derived.Test.YtapeacnagpphjaaGreatNC7
import Derived.Test.YtapeacnagpphjaaGreatNC22
import Derived.Test.YtapeacnagpphjaaGreatNC24
import Derived.Test.YtapeacnagpphjaaGreatNC41
import Derived.Test.YtapeacnagpphjaaGreatNC44
import Derived.Test.YtapeacnagpphjaaGreatNC47
import Derived.Test.YtapeacnagpphjaaGreatNC50
import Derived.Test.YtapeacnagpphjaaGreatNC53
import Derived.Test.YtapeacnagpphjaaGreatNC57
import Derived.Test.YtapeacnagpphjaaGreatNC62
import Derived.Test.YtapeacnagpphjaaGreatNC64
import Derived.Test.YtapeacnagpphjaaGreatNC69
import Derived.Test.YtapeacnagpphjaaGreatNC71
import Derived.Test.YtapeacnagpphjaaGreatNC77
import Derived.Test.YtapeacnagpphjaaGreatNC79
import Derived.Test.YtapeacnagpphjaaGreatAX
import Derived.Test.YtapeacnagpphjaaGreatEvSp
set_option linter.unusedSimpArgs false
set_option linter.unusedVariables false
set_option maxRecDepth 100000
noncomputable section
namespace Go.Ev.X
open Go Go.Ev
def nIn5 : CallT := (memoS nm0 callA)
theorem n_run5 : callS cx1 0 nIn5 5 argsN ⟨.h, .h, .e⟩ ⟨[], rrNn⟩ endB = 0 := by decide +kernel
theorem nIn5_ok {E : Env} {P : Program} (h1 : CallOk E P call1) (hl : CallOk E P callA) (hf : FaOk E ⟨[], rrNn⟩) : CallOk E P nIn5 := (msS_ok rfl nt0 FaOk.nil h1 hl)
end Go.Ev.X
end
/-
  A case of the law, over its calls.
-/
set_option linter.unusedSimpArgs false
set_option linter.unusedVariables false
set_option maxRecDepth 100000
noncomputable section
namespace Go.Ev.X
open Go Go.Ev
def nIn6 : CallT := (memoS nm0 callA)
theorem n_run6 : callS cx1 0 nIn6 5 argsN ⟨.h, .h, .e⟩ ⟨[], rrNb⟩ endB = 0 := by decide +kernel
theorem nIn6_ok {E : Env} {P : Program} (h1 : CallOk E P call1) (hl : CallOk E P callA) (hf : FaOk E ⟨[], rrNb⟩) : CallOk E P nIn6 := (msS_ok rfl nt0 FaOk.nil h1 hl)
end Go.Ev.X
end
