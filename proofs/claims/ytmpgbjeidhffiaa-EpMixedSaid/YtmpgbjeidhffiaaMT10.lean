/-
  A case of the law, over its calls.
-/
import Derived.Test.YtmpgbjeidhffiaaMC0
import Derived.Test.YtmpgbjeidhffiaaMC1
import Derived.Test.YtmpgbjeidhffiaaMC6
import Derived.Test.YtmpgbjeidhffiaaMC7
import Derived.Test.YtmpgbjeidhffiaaMC13
import Derived.Test.YtmpgbjeidhffiaaMC16
import Derived.Test.YtmpgbjeidhffiaaMC17
import Derived.Test.YtmpgbjeidhffiaaMC23
import Derived.Test.YtmpgbjeidhffiaaMC26
import Derived.Test.YtmpgbjeidhffiaaMC27
import Derived.Test.YtmpgbjeidhffiaaMC33
import Derived.Test.YtmpgbjeidhffiaaMC36
import Derived.Test.YtmpgbjeidhffiaaMC37
import Derived.Test.YtmpgbjeidhffiaaMC43
import Derived.Test.YtmpgbjeidhffiaaMC46
import Derived.Test.YtmpgbjeidhffiaaMC47
import Derived.Test.YtmpgbjeidhffiaaMC53
import Derived.Test.YtmpgbjeidhffiaaMC56
import Derived.Test.YtmpgbjeidhffiaaMC57
import Derived.Test.YtmpgbjeidhffiaaAX
set_option linter.unusedSimpArgs false
set_option linter.unusedVariables false
set_option maxRecDepth 100000
noncomputable section
namespace Go.Ev.X
open Go Go.Ev
def mIn10 : CallT := (memoS mm0 (memoS mm51 (memoS mm52 (memoS mm53 (memoS mm54 (memoS mm55 (memoS mm56 (memoS mm57 (memoS mm58 (memoS mm59 (memoS mm60 callA)))))))))))
theorem m_run10 : callS cx1 0 mIn10 3 (argsE false) ⟨.h, .h, .e⟩ ⟨flE02, rrE⟩ endB = 0 := by decide +kernel
theorem mIn10_ok {E : Env} {P : Program} (h1 : CallOk E P call1) (hl : CallOk E P callA) (hf : FaOk E ⟨flE02, rrE⟩) : CallOk E P mIn10 := (msS_ok rfl mt0 FaOk.nil h1 (msS_ok rfl mt51 FaOk.nil h1 (msS_ok rfl mt52 FaOk.nil h1 (msS_ok rfl mt53 FaOk.nil h1 (msS_ok rfl mt54 FaOk.nil h1 (msS_ok rfl mt55 FaOk.nil h1 (msS_ok rfl mt56 FaOk.nil h1 (msS_ok rfl mt57 FaOk.nil h1 (msS_ok rfl mt58 FaOk.nil h1 (msS_ok rfl mt59 FaOk.nil h1 (msS_ok rfl mt60 FaOk.nil h1 hl)))))))))))
end Go.Ev.X
end
