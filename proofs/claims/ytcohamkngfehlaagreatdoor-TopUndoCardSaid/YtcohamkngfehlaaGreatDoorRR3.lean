import Derived.Test.YtcohamkngfehlaaGreatDoorRD
set_option linter.unusedSimpArgs false
set_option linter.unusedVariables false
set_option maxRecDepth 100000
noncomputable section
namespace Go.Ev.X
open Go Go.Ev Go.Proofs
theorem rb3:jH 3=0:=by decide +kernel
theorem rb13:jH 13=0:=by decide +kernel
theorem rb23:jH 23=0:=by decide +kernel
end Go.Ev.X
end
