/-
  A case of the law, over its calls.
-/
import Derived.Test.YtmpgbjeidhffiaaAC0
import Derived.Test.YtmpgbjeidhffiaaAC1
import Derived.Test.YtmpgbjeidhffiaaAC7
set_option linter.unusedSimpArgs false
set_option linter.unusedVariables false
set_option maxRecDepth 100000
noncomputable section
namespace Go.Ev.X
open Go Go.Ev
def aIn0 : CallT := (memoS am0 (memoS am1 (memoS am2 (memoS am3 (memoS am4 (memoS am5 (memoS am6 (memoS am7 (memoS am8 (memoS am9 (memoS am10 call1)))))))))))
theorem a_run0 : callS cx1 0 aIn0 4 [] ⟨.h, .h, .e⟩ ⟨[], []⟩ endB = 0 := by decide +kernel
theorem aIn0_ok {E : Env} {P : Program} (h1 : CallOk E P call1) (hl : CallOk E P call1) (hf : FaOk E ⟨[], []⟩) : CallOk E P aIn0 := (msS_ok rfl at0 FaOk.nil h1 (msS_ok rfl at1 FaOk.nil h1 (msS_ok rfl at2 FaOk.nil h1 (msS_ok rfl at3 FaOk.nil h1 (msS_ok rfl at4 FaOk.nil h1 (msS_ok rfl at5 FaOk.nil h1 (msS_ok rfl at6 FaOk.nil h1 (msS_ok rfl at7 FaOk.nil h1 (msS_ok rfl at8 FaOk.nil h1 (msS_ok rfl at9 FaOk.nil h1 (msS_ok rfl at10 FaOk.nil h1 hl)))))))))))
end Go.Ev.X
end
