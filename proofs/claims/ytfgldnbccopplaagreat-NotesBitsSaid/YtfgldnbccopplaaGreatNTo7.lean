/-
  A piece of the law's run, over its calls.
-/
import Derived.Test.YtfgldnbccopplaaGreatNC26
import Derived.Test.YtfgldnbccopplaaGreatNC32
import Derived.Test.YtfgldnbccopplaaGreatNC53
import Derived.Test.YtfgldnbccopplaaGreatNC57
set_option linter.unusedSimpArgs false
set_option linter.unusedVariables false
set_option maxRecDepth 100000
noncomputable section
namespace Go.Ev.X
open Go Go.Ev
def nAt7 : CallT := (memoS nm26 (memoS nm27 (memoS nm28 (memoS nm29 (memoS nm56 (memoS nm31 (memoS nm32 (memoS nm57 (memoS nm34 (memoS nm58 call1))))))))))
theorem nAt7_ok {E : Env} {P : Program} (hx : CxOk E P (tyOf P) cx1) (h1 : CallOk E P call1) : CallOk E P nAt7 := (msR_ok rfl no26 nt26 FaOk.nil h1 (msR_ok rfl no27 nt27 FaOk.nil h1 (msR_ok rfl no28 nt28 FaOk.nil h1 (msR_ok rfl no29 nt29 FaOk.nil h1 (msR_ok rfl no56 nt56 FaOk.nil h1 (msR_ok rfl no31 nt31 FaOk.nil h1 (msR_ok rfl no32 nt32 FaOk.nil h1 (msR_ok rfl no57 nt57 FaOk.nil h1 (msR_ok rfl no34 nt34 FaOk.nil h1 (msR_ok rfl no58 nt58 FaOk.nil h1 h1))))))))))
theorem n_out70 : runJ stT xiT ziT (koB rsT) ⟨nAt7, 3, 20000⟩ 7 ⟨fE0, []⟩ [] = 0 := by decide +kernel
theorem n_out71 : runJ stT xiT ziT (koB rsT) ⟨nAt7, 3, 20000⟩ 7 ⟨fE1, []⟩ [] = 0 := by decide +kernel
end Go.Ev.X
end
