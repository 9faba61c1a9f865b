import Derived.Test.YtcohamkngfehlaaGreatDoorRD
set_option linter.unusedSimpArgs false
set_option linter.unusedVariables false
set_option maxRecDepth 100000
noncomputable section
namespace Go.Ev.X
open Go Go.Ev Go.Proofs
theorem rb8:jH 8=0:=by decide +kernel
theorem rb18:jH 18=0:=by decide +kernel
theorem rb28:jH 28=0:=by decide +kernel
end Go.Ev.X
end
