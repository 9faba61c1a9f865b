import Derived.Test.YtcohamkngfehlaaGreatDoorRD
set_option linter.unusedSimpArgs false
set_option linter.unusedVariables false
set_option maxRecDepth 100000
noncomputable section
namespace Go.Ev.X
open Go Go.Ev Go.Proofs
theorem rb0:jH 0=0:=by decide +kernel
theorem rb10:jH 10=0:=by decide +kernel
theorem rb20:jH 20=0:=by decide +kernel
end Go.Ev.X
end
