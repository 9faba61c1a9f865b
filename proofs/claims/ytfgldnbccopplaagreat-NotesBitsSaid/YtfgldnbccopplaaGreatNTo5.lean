/-
  A piece of the law's run, over its calls.
-/
import Derived.Test.YtfgldnbccopplaaGreatNC43
import Derived.Test.YtfgldnbccopplaaGreatNC47
import Derived.Test.YtfgldnbccopplaaGreatNC53
set_option linter.unusedSimpArgs false
set_option linter.unusedVariables false
set_option maxRecDepth 100000
noncomputable section
namespace Go.Ev.X
open Go Go.Ev
def nAt5 : CallT := (memoS nm46 (memoS nm47 (memoS nm48 (memoS nm49 (memoS nm50 (memoS nm51 (memoS nm52 (memoS nm53 (memoS nm54 (memoS nm55 call1))))))))))
theorem nAt5_ok {E : Env} {P : Program} (hx : CxOk E P (tyOf P) cx1) (h1 : CallOk E P call1) (hf : FaOk E ⟨fW, []⟩) : CallOk E P nAt5 := (msR_ok rfl no46 nt46 hf h1 (msR_ok rfl no47 nt47 hf h1 (msR_ok rfl no48 nt48 hf h1 (msR_ok rfl no49 nt49 hf h1 (msR_ok rfl no50 nt50 hf h1 (msR_ok rfl no51 nt51 hf h1 (msR_ok rfl no52 nt52 hf h1 (msR_ok rfl no53 nt53 hf h1 (msR_ok rfl no54 nt54 hf h1 (msR_ok rfl no55 nt55 hf h1 h1))))))))))
theorem n_out50 : runJ stT xiT ziT (koB rsT) ⟨nAt5, 3, 20000⟩ 5 ⟨fE0 ++ fW, []⟩ [] = 0 := by decide +kernel
theorem n_out51 : runJ stT xiT ziT (koB rsT) ⟨nAt5, 3, 20000⟩ 5 ⟨fE1 ++ fW, []⟩ [] = 0 := by decide +kernel
end Go.Ev.X
end
