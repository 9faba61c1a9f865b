/-
  A piece of the law's run, over its calls.
-/
import Derived.Test.YtfgldnbccopplaaGreatNC57
import Derived.Test.YtfgldnbccopplaaGreatNC61
import Derived.Test.YtfgldnbccopplaaGreatNC68
set_option linter.unusedSimpArgs false
set_option linter.unusedVariables false
set_option maxRecDepth 100000
noncomputable section
namespace Go.Ev.X
open Go Go.Ev
def nAt9 : CallT := (memoS nm59 (memoS nm60 (memoS nm61 (memoS nm62 (memoS nm63 (memoS nm64 (memoS nm65 (memoS nm66 (memoS nm67 (memoS nm68 call1))))))))))
theorem nAt9_ok {E : Env} {P : Program} (hx : CxOk E P (tyOf P) cx1) (h1 : CallOk E P call1) : CallOk E P nAt9 := (msR_ok rfl no59 nt59 FaOk.nil h1 (msR_ok rfl no60 nt60 FaOk.nil h1 (msR_ok rfl no61 nt61 FaOk.nil h1 (msR_ok rfl no62 nt62 FaOk.nil h1 (msR_ok rfl no63 nt63 FaOk.nil h1 (msR_ok rfl no64 nt64 FaOk.nil h1 (msR_ok rfl no65 nt65 FaOk.nil h1 (msR_ok rfl no66 nt66 FaOk.nil h1 (msR_ok rfl no67 nt67 FaOk.nil h1 (msR_ok rfl no68 nt68 FaOk.nil h1 h1))))))))))
theorem n_out90 : runJ stT xiT ziT (koB rsT) ⟨nAt9, 3, 20000⟩ 9 ⟨fE0, []⟩ [] = 0 := by decide +kernel
theorem n_out91 : runJ stT xiT ziT (koB rsT) ⟨nAt9, 3, 20000⟩ 9 ⟨fE1, []⟩ [] = 0 := by decide +kernel
end Go.Ev.X
end
