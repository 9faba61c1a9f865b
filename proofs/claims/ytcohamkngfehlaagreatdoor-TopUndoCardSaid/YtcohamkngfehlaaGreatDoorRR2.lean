import Derived.Test.YtcohamkngfehlaaGreatDoorRD
set_option linter.unusedSimpArgs false
set_option linter.unusedVariables false
set_option maxRecDepth 100000
noncomputable section
namespace Go.Ev.X
open Go Go.Ev Go.Proofs
theorem rb2:jH 2=0:=by decide +kernel
theorem rb12:jH 12=0:=by decide +kernel
theorem rb22:jH 22=0:=by decide +kernel
end Go.Ev.X
end
