/-
  A piece of the law's run, over its calls.
-/
import Derived.Test.YtfgldnbccopplaaGreatNC0
import Derived.Test.YtfgldnbccopplaaGreatNC1
import Derived.Test.YtfgldnbccopplaaGreatNC5
import Derived.Test.YtfgldnbccopplaaGreatNC10
set_option linter.unusedSimpArgs false
set_option linter.unusedVariables false
set_option maxRecDepth 100000
noncomputable section
namespace Go.Ev.X
open Go Go.Ev
def nIn0 : CallT := (memoS nm0 (memoS nm1 (memoS nm2 (memoS nm3 (memoS nm4 (memoS nm5 (memoS nm6 (memoS nm7 (memoS nm8 (memoS nm9 (memoS nm10 (memoS nm11 call1))))))))))))
theorem n_run0 : callS cx1 0 nIn0 5 [] ⟨.h, .h, .e⟩ ⟨[], []⟩ endB = 0 := by decide +kernel
theorem nIn0_ok {E : Env} {P : Program} (hx : CxOk E P (tyOf P) cx1) (h1 : CallOk E P call1) : CallOk E P nIn0 := (msS_ok rfl nt0 FaOk.nil h1 (msS_ok rfl nt1 FaOk.nil h1 (msS_ok rfl nt2 FaOk.nil h1 (msS_ok rfl nt3 FaOk.nil h1 (msS_ok rfl nt4 FaOk.nil h1 (msS_ok rfl nt5 FaOk.nil h1 (msS_ok rfl nt6 FaOk.nil h1 (msS_ok rfl nt7 FaOk.nil h1 (msS_ok rfl nt8 FaOk.nil h1 (msS_ok rfl nt9 FaOk.nil h1 (msS_ok rfl nt10 FaOk.nil h1 (msS_ok rfl nt11 FaOk.nil h1 h1))))))))))))
end Go.Ev.X
end
