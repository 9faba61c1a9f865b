/-
  A case of the law, over its calls.
-/
import Derived.Test.YtmpgbjeidhffiaaMC0
import Derived.Test.YtmpgbjeidhffiaaMC1
import Derived.Test.YtmpgbjeidhffiaaMC6
import Derived.Test.YtmpgbjeidhffiaaMC7
import Derived.Test.YtmpgbjeidhffiaaMC13
import Derived.Test.YtmpgbjeidhffiaaMC16
import Derived.Test.YtmpgbjeidhffiaaMC17
import Derived.Test.YtmpgbjeidhffiaaMC23
import Derived.Test.YtmpgbjeidhffiaaMC26
import Derived.Test.YtmpgbjeidhffiaaMC27
import Derived.Test.YtmpgbjeidhffiaaMC33
import Derived.Test.YtmpgbjeidhffiaaMC36
import Derived.Test.YtmpgbjeidhffiaaMC37
import Derived.Test.YtmpgbjeidhffiaaMC43
import Derived.Test.YtmpgbjeidhffiaaMC46
import Derived.Test.YtmpgbjeidhffiaaMC47
import Derived.Test.YtmpgbjeidhffiaaMC53
import Derived.Test.YtmpgbjeidhffiaaMC56
import Derived.Test.YtmpgbjeidhffiaaMC57
import Derived.Test.YtmpgbjeidhffiaaAX
set_option linter.unusedSimpArgs false
set_option linter.unusedVariables false
set_option maxRecDepth 100000
noncomputable section
namespace Go.Ev.X
open Go Go.Ev
def mIn7 : CallT := (memoS mm0 (memoS mm31 (memoS mm32 (memoS mm33 (memoS mm34 (memoS mm35 (memoS mm36 (memoS mm37 (memoS mm38 (memoS mm39 (memoS mm40 callA)))))))))))
theorem m_run7 : callS cx1 0 mIn7 3 (argsE false) ⟨.h, .h, .e⟩ ⟨flE10, rrE⟩ endB = 0 := by decide +kernel
theorem mIn7_ok {E : Env} {P : Program} (h1 : CallOk E P call1) (hl : CallOk E P callA) (hf : FaOk E ⟨flE10, rrE⟩) : CallOk E P mIn7 := (msS_ok rfl mt0 FaOk.nil h1 (msS_ok rfl mt31 FaOk.nil h1 (msS_ok rfl mt32 FaOk.nil h1 (msS_ok rfl mt33 FaOk.nil h1 (msS_ok rfl mt34 FaOk.nil h1 (msS_ok rfl mt35 FaOk.nil h1 (msS_ok rfl mt36 FaOk.nil h1 (msS_ok rfl mt37 FaOk.nil h1 (msS_ok rfl mt38 FaOk.nil h1 (msS_ok rfl mt39 FaOk.nil h1 (msS_ok rfl mt40 FaOk.nil h1 hl)))))))))))
end Go.Ev.X
end
