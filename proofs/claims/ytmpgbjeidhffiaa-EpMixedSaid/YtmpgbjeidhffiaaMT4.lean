/-
  A case of the law, over its calls.
-/
import Derived.Test.YtmpgbjeidhffiaaMC0
import Derived.Test.YtmpgbjeidhffiaaMC1
import Derived.Test.YtmpgbjeidhffiaaMC6
import Derived.Test.YtmpgbjeidhffiaaMC7
import Derived.Test.YtmpgbjeidhffiaaMC13
import Derived.Test.YtmpgbjeidhffiaaMC16
import Derived.Test.YtmpgbjeidhffiaaMC17
import Derived.Test.YtmpgbjeidhffiaaMC23
import Derived.Test.YtmpgbjeidhffiaaMC26
import Derived.Test.YtmpgbjeidhffiaaMC27
import Derived.Test.YtmpgbjeidhffiaaMC33
import Derived.Test.YtmpgbjeidhffiaaMC36
import Derived.Test.YtmpgbjeidhffiaaMC37
import Derived.Test.YtmpgbjeidhffiaaMC43
import Derived.Test.YtmpgbjeidhffiaaMC46
import Derived.Test.YtmpgbjeidhffiaaMC47
import Derived.Test.YtmpgbjeidhffiaaMC53
import Derived.Test.YtmpgbjeidhffiaaMC56
import Derived.Test.YtmpgbjeidhffiaaMC57
import Derived.Test.YtmpgbjeidhffiaaAX
set_option linter.unusedSimpArgs false
set_option linter.unusedVariables false
set_option maxRecDepth 100000
noncomputable section
namespace Go.Ev.X
open Go Go.Ev
def mIn4 : CallT := (memoS mm0 (memoS mm21 (memoS mm22 (memoS mm23 (memoS mm24 (memoS mm25 (memoS mm26 (memoS mm27 (memoS mm28 (memoS mm29 (memoS mm30 callA)))))))))))
theorem m_run4 : callS cx1 0 mIn4 3 (argsE true) ⟨.h, .h, .e⟩ ⟨flE02, rrE⟩ endB = 0 := by decide +kernel
theorem mIn4_ok {E : Env} {P : Program} (h1 : CallOk E P call1) (hl : CallOk E P callA) (hf : FaOk E ⟨flE02, rrE⟩) : CallOk E P mIn4 := (msS_ok rfl mt0 FaOk.nil h1 (msS_ok rfl mt21 FaOk.nil h1 (msS_ok rfl mt22 FaOk.nil h1 (msS_ok rfl mt23 FaOk.nil h1 (msS_ok rfl mt24 FaOk.nil h1 (msS_ok rfl mt25 FaOk.nil h1 (msS_ok rfl mt26 FaOk.nil h1 (msS_ok rfl mt27 FaOk.nil h1 (msS_ok rfl mt28 FaOk.nil h1 (msS_ok rfl mt29 FaOk.nil h1 (msS_ok rfl mt30 FaOk.nil h1 hl)))))))))))
end Go.Ev.X
end
