import Derived.Test.YtcohamkngfehlaaGreatDoorRD
set_option linter.unusedSimpArgs false
set_option linter.unusedVariables false
set_option maxRecDepth 100000
noncomputable section
namespace Go.Ev.X
open Go Go.Ev Go.Proofs
theorem rb1:jH 1=0:=by decide +kernel
theorem rb11:jH 11=0:=by decide +kernel
theorem rb21:jH 21=0:=by decide +kernel
end Go.Ev.X
end
