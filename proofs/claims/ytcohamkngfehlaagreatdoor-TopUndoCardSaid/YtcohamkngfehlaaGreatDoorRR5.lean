import Derived.Test.YtcohamkngfehlaaGreatDoorRD
set_option linter.unusedSimpArgs false
set_option linter.unusedVariables false
set_option maxRecDepth 100000
noncomputable section
namespace Go.Ev.X
open Go Go.Ev Go.Proofs
theorem rb5:jH 5=0:=by decide +kernel
theorem rb15:jH 15=0:=by decide +kernel
theorem rb25:jH 25=0:=by decide +kernel
end Go.Ev.X
end
