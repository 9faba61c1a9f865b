import Derived.Test.YtcohamkngfehlaaGreatDoorRD
set_option linter.unusedSimpArgs false
set_option linter.unusedVariables false
set_option maxRecDepth 100000
noncomputable section
namespace Go.Ev.X
open Go Go.Ev Go.Proofs
theorem rb7:jH 7=0:=by decide +kernel
theorem rb17:jH 17=0:=by decide +kernel
theorem rb27:jH 27=0:=by decide +kernel
end Go.Ev.X
end
