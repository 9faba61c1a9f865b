/-
  A case of the law, over its calls.
-/
import Derived.Test.YtmpgbjeidhffiaaMC0
import Derived.Test.YtmpgbjeidhffiaaMC1
import Derived.Test.YtmpgbjeidhffiaaMC6
import Derived.Test.YtmpgbjeidhffiaaMC7
import Derived.Test.YtmpgbjeidhffiaaMC13
import Derived.Test.YtmpgbjeidhffiaaMC16
import Derived.Test.YtmpgbjeidhffiaaMC17
import Derived.Test.YtmpgbjeidhffiaaMC23
import Derived.Test.YtmpgbjeidhffiaaMC26
import Derived.Test.YtmpgbjeidhffiaaMC27
import Derived.Test.YtmpgbjeidhffiaaMC33
import Derived.Test.YtmpgbjeidhffiaaMC36
import Derived.Test.YtmpgbjeidhffiaaMC37
import Derived.Test.YtmpgbjeidhffiaaMC43
import Derived.Test.YtmpgbjeidhffiaaMC46
import Derived.Test.YtmpgbjeidhffiaaMC47
import Derived.Test.YtmpgbjeidhffiaaMC53
import Derived.Test.YtmpgbjeidhffiaaMC56
import Derived.Test.YtmpgbjeidhffiaaMC57
import Derived.Test.YtmpgbjeidhffiaaAX
set_option linter.unusedSimpArgs false
set_option linter.unusedVariables false
set_option maxRecDepth 100000
noncomputable section
namespace Go.Ev.X
open Go Go.Ev
def mIn0 : CallT := (memoS mm0 (memoS mm1 (memoS mm2 (memoS mm3 (memoS mm4 (memoS mm5 (memoS mm6 (memoS mm7 (memoS mm8 (memoS mm9 (memoS mm10 callA)))))))))))
theorem m_run0 : callS cx1 0 mIn0 3 (argsE true) ⟨.h, .h, .e⟩ ⟨flE00, rrE⟩ endB = 0 := by decide +kernel
theorem mIn0_ok {E : Env} {P : Program} (h1 : CallOk E P call1) (hl : CallOk E P callA) (hf : FaOk E ⟨flE00, rrE⟩) : CallOk E P mIn0 := (msS_ok rfl mt0 FaOk.nil h1 (msS_ok rfl mt1 FaOk.nil h1 (msS_ok rfl mt2 FaOk.nil h1 (msS_ok rfl mt3 FaOk.nil h1 (msS_ok rfl mt4 FaOk.nil h1 (msS_ok rfl mt5 FaOk.nil h1 (msS_ok rfl mt6 FaOk.nil h1 (msS_ok rfl mt7 FaOk.nil h1 (msS_ok rfl mt8 FaOk.nil h1 (msS_ok rfl mt9 FaOk.nil h1 (msS_ok rfl mt10 FaOk.nil h1 hl)))))))))))
end Go.Ev.X
end
