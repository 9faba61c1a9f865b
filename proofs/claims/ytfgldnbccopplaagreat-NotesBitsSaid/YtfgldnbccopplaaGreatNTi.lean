/-
  A piece of the law's run, over its calls.
-/
import Derived.Test.YtfgldnbccopplaaGreatNC25
import Derived.Test.YtfgldnbccopplaaGreatAX
set_option linter.unusedSimpArgs false
set_option linter.unusedVariables false
set_option maxRecDepth 100000
noncomputable section
namespace Go.Ev.X
open Go Go.Ev
def nWay : CallT := (memoS nm25 callA)
theorem nWay_ok {E : Env} {P : Program} (hx : CxOk E P (tyOf P) cx1) (h1 : CallOk E P call1) (hA : CallOk E P callA) : CallOk E P nWay := (msR_ok rfl no25 nt25 FaOk.nil h1 hA)
theorem n_in00 : initFr argsR (fun fr => zIn ziT ⟨nWay, 3, 20000⟩ fr hR fIn00 (fun fr h _ => nextK stT [(0, sgI), (1, sgI)] fr h) (koB rsT)) = 0 := by decide +kernel
theorem n_in10 : initFr argsR (fun fr => zIn ziT ⟨nWay, 3, 20000⟩ fr hR fIn10 (fun fr h _ => nextK stT [(0, sgI), (1, sgI)] fr h) (koB rsT)) = 0 := by decide +kernel
theorem n_in01 : initFr argsR (fun fr => zIn ziT ⟨nWay, 3, 20000⟩ fr hR fIn01 (fun fr h _ => nextK stT [(6, sgI), (7, sgI)] fr h) (koB rsT)) = 0 := by decide +kernel
theorem n_in11 : initFr argsR (fun fr => zIn ziT ⟨nWay, 3, 20000⟩ fr hR fIn11 (fun fr h _ => nextK stT [(6, sgI), (7, sgI)] fr h) (koB rsT)) = 0 := by decide +kernel
end Go.Ev.X
end
