/-
  Runs of the law.
-/
import Derived.Test.YtligpkenodgfoaaGreatDoorLW
set_option linter.unusedSimpArgs false
set_option linter.unusedVariables false
set_option maxRecDepth 100000
noncomputable section
namespace Go.Ev.X
open Go Go.Ev
theorem l_in0 : initFr argsL (fun fr => zIn ziT ⟨wayL 0 (.si .i64 (.v 11)), 5, 20000⟩ fr gbx.mk' (inF false) (fun fr h _ => nextK stL [(0, sgA)] fr h) (koB rsT)) = 0 := by decide +kernel
theorem l_in1 : initFr argsL (fun fr => zIn ziT ⟨wayL 0 (.i .i64 0), 5, 20000⟩ fr gbx.mk' (inF true) (fun fr h _ => nextK stL [(1, sgA)] fr h) (koB rsT)) = 0 := by decide +kernel
theorem l_in2 : initFr argsL (fun fr => zIn ziT ⟨wayL 1 (.si .i64 (.v 11)), 5, 20000⟩ fr gbx.mk' (inF false) (fun fr h _ => nextK stL [(2, sgA)] fr h) (koB rsT)) = 0 := by decide +kernel
theorem l_in3 : initFr argsL (fun fr => zIn ziT ⟨wayL 1 (.i .i64 0), 5, 20000⟩ fr gbx.mk' (inF true) (fun fr h _ => nextK stL [(3, sgA)] fr h) (koB rsT)) = 0 := by decide +kernel
theorem l_in4 : initFr argsL (fun fr => zIn ziT ⟨wayL 2 (.si .i64 (.v 11)), 5, 20000⟩ fr gbx.mk' (inF false) (fun fr h _ => nextK stL [(4, sgA)] fr h) (koB rsT)) = 0 := by decide +kernel
theorem l_in5 : initFr argsL (fun fr => zIn ziT ⟨wayL 2 (.i .i64 0), 5, 20000⟩ fr gbx.mk' (inF true) (fun fr h _ => nextK stL [(5, sgA)] fr h) (koB rsT)) = 0 := by decide +kernel
theorem l_in6 : initFr argsL (fun fr => zIn ziT ⟨wayL 3 (.si .i64 (.v 11)), 5, 20000⟩ fr gbx.mk' (inF false) (fun fr h _ => nextK stL [(6, sgA)] fr h) (koB rsT)) = 0 := by decide +kernel
theorem l_in7 : initFr argsL (fun fr => zIn ziT ⟨wayL 3 (.i .i64 0), 5, 20000⟩ fr gbx.mk' (inF true) (fun fr h _ => nextK stL [(7, sgA)] fr h) (koB rsT)) = 0 := by decide +kernel
end Go.Ev.X
end
