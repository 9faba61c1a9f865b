/-
  Runs of the law.
-/
import Derived.Test.YtligpkenodgfoaaGreatDoorLW
set_option linter.unusedSimpArgs false
set_option linter.unusedVariables false
set_option maxRecDepth 100000
noncomputable section
namespace Go.Ev.X
open Go Go.Ev
theorem l_in16 : initFr argsL (fun fr => zIn ziT ⟨wayL 8 (.si .i64 (.v 11)), 5, 20000⟩ fr gbx.mk' (inF false) (fun fr h _ => nextK stL [(16, sgA)] fr h) (koB rsT)) = 0 := by decide +kernel
theorem l_in17 : initFr argsL (fun fr => zIn ziT ⟨wayL 8 (.i .i64 0), 5, 20000⟩ fr gbx.mk' (inF true) (fun fr h _ => nextK stL [(17, sgA)] fr h) (koB rsT)) = 0 := by decide +kernel
theorem l_in18 : initFr argsL (fun fr => zIn ziT ⟨wayL 9 (.si .i64 (.v 11)), 5, 20000⟩ fr gbx.mk' (inF false) (fun fr h _ => nextK stL [(18, sgA)] fr h) (koB rsT)) = 0 := by decide +kernel
theorem l_in19 : initFr argsL (fun fr => zIn ziT ⟨wayL 9 (.i .i64 0), 5, 20000⟩ fr gbx.mk' (inF true) (fun fr h _ => nextK stL [(19, sgA)] fr h) (koB rsT)) = 0 := by decide +kernel
theorem l_in20 : initFr argsL (fun fr => zIn ziT ⟨wayL 10 (.si .i64 (.v 11)), 5, 20000⟩ fr gbx.mk' (inF false) (fun fr h _ => nextK stL [(20, sgA)] fr h) (koB rsT)) = 0 := by decide +kernel
theorem l_in21 : initFr argsL (fun fr => zIn ziT ⟨wayL 10 (.i .i64 0), 5, 20000⟩ fr gbx.mk' (inF true) (fun fr h _ => nextK stL [(21, sgA)] fr h) (koB rsT)) = 0 := by decide +kernel
theorem l_in22 : initFr argsL (fun fr => zIn ziT ⟨wayL 11 (.si .i64 (.v 11)), 5, 20000⟩ fr gbx.mk' (inF false) (fun fr h _ => nextK stL [(22, sgA)] fr h) (koB rsT)) = 0 := by decide +kernel
theorem l_in23 : initFr argsL (fun fr => zIn ziT ⟨wayL 11 (.i .i64 0), 5, 20000⟩ fr gbx.mk' (inF true) (fun fr h _ => nextK stL [(23, sgA)] fr h) (koB rsT)) = 0 := by decide +kernel
end Go.Ev.X
end
