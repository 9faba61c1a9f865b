/-
  Runs of the law.
-/
import Derived.Test.YtligpkenodgfoaaGreatDoorLW
set_option linter.unusedSimpArgs false
set_option linter.unusedVariables false
set_option maxRecDepth 100000
noncomputable section
namespace Go.Ev.X
open Go Go.Ev
theorem l_in8 : initFr argsL (fun fr => zIn ziT ⟨wayL 4 (.si .i64 (.v 11)), 5, 20000⟩ fr gbx.mk' (inF false) (fun fr h _ => nextK stL [(8, sgA)] fr h) (koB rsT)) = 0 := by decide +kernel
theorem l_in9 : initFr argsL (fun fr => zIn ziT ⟨wayL 4 (.i .i64 0), 5, 20000⟩ fr gbx.mk' (inF true) (fun fr h _ => nextK stL [(9, sgA)] fr h) (koB rsT)) = 0 := by decide +kernel
theorem l_in10 : initFr argsL (fun fr => zIn ziT ⟨wayL 5 (.si .i64 (.v 11)), 5, 20000⟩ fr gbx.mk' (inF false) (fun fr h _ => nextK stL [(10, sgA)] fr h) (koB rsT)) = 0 := by decide +kernel
theorem l_in11 : initFr argsL (fun fr => zIn ziT ⟨wayL 5 (.i .i64 0), 5, 20000⟩ fr gbx.mk' (inF true) (fun fr h _ => nextK stL [(11, sgA)] fr h) (koB rsT)) = 0 := by decide +kernel
theorem l_in12 : initFr argsL (fun fr => zIn ziT ⟨wayL 6 (.si .i64 (.v 11)), 5, 20000⟩ fr gbx.mk' (inF false) (fun fr h _ => nextK stL [(12, sgA)] fr h) (koB rsT)) = 0 := by decide +kernel
theorem l_in13 : initFr argsL (fun fr => zIn ziT ⟨wayL 6 (.i .i64 0), 5, 20000⟩ fr gbx.mk' (inF true) (fun fr h _ => nextK stL [(13, sgA)] fr h) (koB rsT)) = 0 := by decide +kernel
theorem l_in14 : initFr argsL (fun fr => zIn ziT ⟨wayL 7 (.si .i64 (.v 11)), 5, 20000⟩ fr gbx.mk' (inF false) (fun fr h _ => nextK stL [(14, sgA)] fr h) (koB rsT)) = 0 := by decide +kernel
theorem l_in15 : initFr argsL (fun fr => zIn ziT ⟨wayL 7 (.i .i64 0), 5, 20000⟩ fr gbx.mk' (inF true) (fun fr h _ => nextK stL [(15, sgA)] fr h) (koB rsT)) = 0 := by decide +kernel
end Go.Ev.X
end
