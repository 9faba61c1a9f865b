/-
  A case of the law, over its calls.
-/
import Derived.Test.YtmpgbjeidhffiaaMC0
import Derived.Test.YtmpgbjeidhffiaaMC1
import Derived.Test.YtmpgbjeidhffiaaMC6
import Derived.Test.YtmpgbjeidhffiaaMC7
import Derived.Test.YtmpgbjeidhffiaaMC13
import Derived.Test.YtmpgbjeidhffiaaMC16
import Derived.Test.YtmpgbjeidhffiaaMC17
import Derived.Test.YtmpgbjeidhffiaaMC23
import Derived.Test.YtmpgbjeidhffiaaMC26
import Derived.Test.YtmpgbjeidhffiaaMC27
import Derived.Test.YtmpgbjeidhffiaaMC33
import Derived.Test.YtmpgbjeidhffiaaMC36
import Derived.Test.YtmpgbjeidhffiaaMC37
import Derived.Test.YtmpgbjeidhffiaaMC43
import Derived.Test.YtmpgbjeidhffiaaMC46
import Derived.Test.YtmpgbjeidhffiaaMC47
import Derived.Test.YtmpgbjeidhffiaaMC53
import Derived.Test.YtmpgbjeidhffiaaMC56
import Derived.Test.YtmpgbjeidhffiaaMC57
import Derived.Test.YtmpgbjeidhffiaaAX
set_option linter.unusedSimpArgs false
set_option linter.unusedVariables false
set_option maxRecDepth 100000
noncomputable section
namespace Go.Ev.X
open Go Go.Ev
def mIn9 : CallT := (memoS mm0 (memoS mm41 (memoS mm42 (memoS mm43 (memoS mm44 (memoS mm45 (memoS mm46 (memoS mm47 (memoS mm48 (memoS mm49 (memoS mm50 callA)))))))))))
theorem m_run9 : callS cx1 0 mIn9 3 (argsE false) ⟨.h, .h, .e⟩ ⟨flE11, rrE⟩ endB = 0 := by decide +kernel
theorem mIn9_ok {E : Env} {P : Program} (h1 : CallOk E P call1) (hl : CallOk E P callA) (hf : FaOk E ⟨flE11, rrE⟩) : CallOk E P mIn9 := (msS_ok rfl mt0 FaOk.nil h1 (msS_ok rfl mt41 FaOk.nil h1 (msS_ok rfl mt42 FaOk.nil h1 (msS_ok rfl mt43 FaOk.nil h1 (msS_ok rfl mt44 FaOk.nil h1 (msS_ok rfl mt45 FaOk.nil h1 (msS_ok rfl mt46 FaOk.nil h1 (msS_ok rfl mt47 FaOk.nil h1 (msS_ok rfl mt48 FaOk.nil h1 (msS_ok rfl mt49 FaOk.nil h1 (msS_ok rfl mt50 FaOk.nil h1 hl)))))))))))
end Go.Ev.X
end
