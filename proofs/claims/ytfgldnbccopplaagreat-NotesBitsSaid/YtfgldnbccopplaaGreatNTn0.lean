/-
  A piece of the law's run, over its calls.
-/
import Derived.Test.YtfgldnbccopplaaGreatNC0
import Derived.Test.YtfgldnbccopplaaGreatNC10
import Derived.Test.YtfgldnbccopplaaGreatNC16
import Derived.Test.YtfgldnbccopplaaGreatNC21
import Derived.Test.YtfgldnbccopplaaGreatAX
set_option linter.unusedSimpArgs false
set_option linter.unusedVariables false
set_option maxRecDepth 100000
noncomputable section
namespace Go.Ev.X
open Go Go.Ev
def nNil0 : CallT := (memoS nm0 (memoS nm12 (memoS nm13 (memoS nm14 (memoS nm15 (memoS nm16 (memoS nm17 (memoS nm18 (memoS nm19 (memoS nm20 (memoS nm21 callA)))))))))))
theorem nNil0_ok {E : Env} {P : Program} (hx : CxOk E P (tyOf P) cx1) (h1 : CallOk E P call1) (hA : CallOk E P callA) : CallOk E P nNil0 := (msS_ok rfl nt0 FaOk.nil h1 (msS_ok rfl nt12 FaOk.nil h1 (msS_ok rfl nt13 FaOk.nil h1 (msS_ok rfl nt14 FaOk.nil h1 (msS_ok rfl nt15 FaOk.nil h1 (msS_ok rfl nt16 FaOk.nil h1 (msS_ok rfl nt17 FaOk.nil h1 (msS_ok rfl nt18 FaOk.nil h1 (msS_ok rfl nt19 FaOk.nil h1 (msS_ok rfl nt20 FaOk.nil h1 (msS_ok rfl nt21 FaOk.nil h1 hA)))))))))))
theorem n_nil00 : callS cx1 0 nNil0 3 argsN ⟨.h, .h, .e⟩ fIn00 endB = 0 := by decide +kernel
theorem n_nil10 : callS cx1 0 nNil0 3 argsN ⟨.h, .h, .e⟩ fIn10 endB = 0 := by decide +kernel
end Go.Ev.X
end
