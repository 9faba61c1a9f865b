import Derived.Test.YtcohamkngfehlaaGreatDoorRD
set_option linter.unusedSimpArgs false
set_option linter.unusedVariables false
set_option maxRecDepth 100000
noncomputable section
namespace Go.Ev.X
open Go Go.Ev Go.Proofs
theorem rb9:jH 9=0:=by decide +kernel
theorem rb19:jH 19=0:=by decide +kernel
theorem rb29:jH 29=0:=by decide +kernel
end Go.Ev.X
end
