import Derived.Test.YtcohamkngfehlaaGreatDoorRD
set_option linter.unusedSimpArgs false
set_option linter.unusedVariables false
set_option maxRecDepth 100000
noncomputable section
namespace Go.Ev.X
open Go Go.Ev Go.Proofs
theorem rb6:jH 6=0:=by decide +kernel
theorem rb16:jH 16=0:=by decide +kernel
theorem rb26:jH 26=0:=by decide +kernel
end Go.Ev.X
end
