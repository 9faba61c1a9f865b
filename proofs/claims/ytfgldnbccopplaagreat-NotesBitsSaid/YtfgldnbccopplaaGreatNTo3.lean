/-
  A piece of the law's run, over its calls.
-/
import Derived.Test.YtfgldnbccopplaaGreatNC32
import Derived.Test.YtfgldnbccopplaaGreatNC37
import Derived.Test.YtfgldnbccopplaaGreatNC43
set_option linter.unusedSimpArgs false
set_option linter.unusedVariables false
set_option maxRecDepth 100000
noncomputable section
namespace Go.Ev.X
open Go Go.Ev
def nAt3 : CallT := (memoS nm36 (memoS nm37 (memoS nm38 (memoS nm39 (memoS nm40 (memoS nm41 (memoS nm42 (memoS nm43 (memoS nm44 (memoS nm45 call1))))))))))
theorem nAt3_ok {E : Env} {P : Program} (hx : CxOk E P (tyOf P) cx1) (h1 : CallOk E P call1) : CallOk E P nAt3 := (msR_ok rfl no36 nt36 FaOk.nil h1 (msR_ok rfl no37 nt37 FaOk.nil h1 (msR_ok rfl no38 nt38 FaOk.nil h1 (msR_ok rfl no39 nt39 FaOk.nil h1 (msR_ok rfl no40 nt40 FaOk.nil h1 (msR_ok rfl no41 nt41 FaOk.nil h1 (msR_ok rfl no42 nt42 FaOk.nil h1 (msR_ok rfl no43 nt43 FaOk.nil h1 (msR_ok rfl no44 nt44 FaOk.nil h1 (msR_ok rfl no45 nt45 FaOk.nil h1 h1))))))))))
theorem n_out30 : runJ stT xiT ziT (koB rsT) ⟨nAt3, 3, 20000⟩ 3 ⟨fE0, []⟩ [] = 0 := by decide +kernel
theorem n_out31 : runJ stT xiT ziT (koB rsT) ⟨nAt3, 3, 20000⟩ 3 ⟨fE1, []⟩ [] = 0 := by decide +kernel
end Go.Ev.X
end
