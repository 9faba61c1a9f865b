import Derived.Test.YtcohamkngfehlaaGreatDoorRD
set_option linter.unusedSimpArgs false
set_option linter.unusedVariables false
set_option maxRecDepth 100000
noncomputable section
namespace Go.Ev.X
open Go Go.Ev Go.Proofs
theorem rb4:jH 4=0:=by decide +kernel
theorem rb14:jH 14=0:=by decide +kernel
theorem rb24:jH 24=0:=by decide +kernel
end Go.Ev.X
end
