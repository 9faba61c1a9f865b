/-
  Runs of the law.
-/
import Derived.Test.YtligpkenodgfoaaGreatDoorLW
set_option linter.unusedSimpArgs false
set_option linter.unusedVariables false
set_option maxRecDepth 100000
noncomputable section
namespace Go.Ev.X
open Go Go.Ev
theorem l_in24 : initFr argsL (fun fr => zIn ziT ⟨wayL 12 (.si .i64 (.v 11)), 5, 20000⟩ fr gbx.mk' (inF false) (fun fr h _ => nextK stL [(24, sgA)] fr h) (koB rsT)) = 0 := by decide +kernel
theorem l_in25 : initFr argsL (fun fr => zIn ziT ⟨wayL 12 (.i .i64 0), 5, 20000⟩ fr gbx.mk' (inF true) (fun fr h _ => nextK stL [(25, sgA)] fr h) (koB rsT)) = 0 := by decide +kernel
theorem l_in26 : initFr argsL (fun fr => zIn ziT ⟨wayL 13 (.si .i64 (.v 11)), 5, 20000⟩ fr gbx.mk' (inF false) (fun fr h _ => nextK stL [(26, sgA)] fr h) (koB rsT)) = 0 := by decide +kernel
theorem l_in27 : initFr argsL (fun fr => zIn ziT ⟨wayL 13 (.i .i64 0), 5, 20000⟩ fr gbx.mk' (inF true) (fun fr h _ => nextK stL [(27, sgA)] fr h) (koB rsT)) = 0 := by decide +kernel
theorem l_in28 : initFr argsL (fun fr => zIn ziT ⟨wayL 14 (.si .i64 (.v 11)), 5, 20000⟩ fr gbx.mk' (inF false) (fun fr h _ => nextK stL [(28, sgA)] fr h) (koB rsT)) = 0 := by decide +kernel
theorem l_in29 : initFr argsL (fun fr => zIn ziT ⟨wayL 14 (.i .i64 0), 5, 20000⟩ fr gbx.mk' (inF true) (fun fr h _ => nextK stL [(29, sgA)] fr h) (koB rsT)) = 0 := by decide +kernel
theorem l_in30 : initFr argsL (fun fr => zIn ziT ⟨wayL 15 (.si .i64 (.v 11)), 5, 20000⟩ fr gbx.mk' (inF false) (fun fr h _ => nextK stL [(30, sgA)] fr h) (koB rsT)) = 0 := by decide +kernel
theorem l_in31 : initFr argsL (fun fr => zIn ziT ⟨wayL 15 (.i .i64 0), 5, 20000⟩ fr gbx.mk' (inF true) (fun fr h _ => nextK stL [(31, sgA)] fr h) (koB rsT)) = 0 := by decide +kernel
end Go.Ev.X
end
