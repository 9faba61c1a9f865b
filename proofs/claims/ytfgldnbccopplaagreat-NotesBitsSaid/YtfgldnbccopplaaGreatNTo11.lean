/-
  A piece of the law's run, over its calls.
-/
import Derived.Test.YtfgldnbccopplaaGreatNC68
import Derived.Test.YtfgldnbccopplaaGreatNC73
import Derived.Test.YtfgldnbccopplaaGreatNC78
set_option linter.unusedSimpArgs false
set_option linter.unusedVariables false
set_option maxRecDepth 100000
noncomputable section
namespace Go.Ev.X
open Go Go.Ev
def nAt11 : CallT := (memoS nm69 (memoS nm70 (memoS nm71 (memoS nm72 (memoS nm73 (memoS nm74 (memoS nm75 (memoS nm76 (memoS nm77 (memoS nm78 call1))))))))))
theorem nAt11_ok {E : Env} {P : Program} (hx : CxOk E P (tyOf P) cx1) (h1 : CallOk E P call1) (hf : FaOk E ⟨fW, []⟩) : CallOk E P nAt11 := (msR_ok rfl no69 nt69 hf h1 (msR_ok rfl no70 nt70 hf h1 (msR_ok rfl no71 nt71 hf h1 (msR_ok rfl no72 nt72 hf h1 (msR_ok rfl no73 nt73 hf h1 (msR_ok rfl no74 nt74 hf h1 (msR_ok rfl no75 nt75 hf h1 (msR_ok rfl no76 nt76 hf h1 (msR_ok rfl no77 nt77 hf h1 (msR_ok rfl no78 nt78 hf h1 h1))))))))))
theorem n_out110 : runJ stT xiT ziT (koB rsT) ⟨nAt11, 3, 20000⟩ 11 ⟨fE0 ++ fW, []⟩ [] = 0 := by decide +kernel
theorem n_out111 : runJ stT xiT ziT (koB rsT) ⟨nAt11, 3, 20000⟩ 11 ⟨fE1 ++ fW, []⟩ [] = 0 := by decide +kernel
end Go.Ev.X
end
