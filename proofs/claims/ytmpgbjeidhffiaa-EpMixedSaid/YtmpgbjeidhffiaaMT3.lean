/-
  A case of the law, over its calls.
-/
import Derived.Test.YtmpgbjeidhffiaaMC0
import Derived.Test.YtmpgbjeidhffiaaMC1
import Derived.Test.YtmpgbjeidhffiaaMC6
import Derived.Test.YtmpgbjeidhffiaaMC7
import Derived.Test.YtmpgbjeidhffiaaMC13
import Derived.Test.YtmpgbjeidhffiaaMC16
import Derived.Test.YtmpgbjeidhffiaaMC17
import Derived.Test.YtmpgbjeidhffiaaMC23
import Derived.Test.YtmpgbjeidhffiaaMC26
import Derived.Test.YtmpgbjeidhffiaaMC27
import Derived.Test.YtmpgbjeidhffiaaMC33
import Derived.Test.YtmpgbjeidhffiaaMC36
import Derived.Test.YtmpgbjeidhffiaaMC37
import Derived.Test.YtmpgbjeidhffiaaMC43
import Derived.Test.YtmpgbjeidhffiaaMC46
import Derived.Test.YtmpgbjeidhffiaaMC47
import Derived.Test.YtmpgbjeidhffiaaMC53
import Derived.Test.YtmpgbjeidhffiaaMC56
import Derived.Test.YtmpgbjeidhffiaaMC57
import Derived.Test.YtmpgbjeidhffiaaAX
set_option linter.unusedSimpArgs false
set_option linter.unusedVariables false
set_option maxRecDepth 100000
noncomputable section
namespace Go.Ev.X
open Go Go.Ev
def mIn3 : CallT := (memoS mm0 (memoS mm11 (memoS mm12 (memoS mm13 (memoS mm14 (memoS mm15 (memoS mm16 (memoS mm17 (memoS mm18 (memoS mm19 (memoS mm20 callA)))))))))))
theorem m_run3 : callS cx1 0 mIn3 3 (argsE true) ⟨.h, .h, .e⟩ ⟨flE11, rrE⟩ endB = 0 := by decide +kernel
theorem mIn3_ok {E : Env} {P : Program} (h1 : CallOk E P call1) (hl : CallOk E P callA) (hf : FaOk E ⟨flE11, rrE⟩) : CallOk E P mIn3 := (msS_ok rfl mt0 FaOk.nil h1 (msS_ok rfl mt11 FaOk.nil h1 (msS_ok rfl mt12 FaOk.nil h1 (msS_ok rfl mt13 FaOk.nil h1 (msS_ok rfl mt14 FaOk.nil h1 (msS_ok rfl mt15 FaOk.nil h1 (msS_ok rfl mt16 FaOk.nil h1 (msS_ok rfl mt17 FaOk.nil h1 (msS_ok rfl mt18 FaOk.nil h1 (msS_ok rfl mt19 FaOk.nil h1 (msS_ok rfl mt20 FaOk.nil h1 hl)))))))))))
end Go.Ev.X
end
