import Derived.Test.YtcohamkngfehlaaGreatDoorRD
set_option linter.unusedSimpArgs false
set_option linter.unusedVariables false
set_option maxRecDepth 100000
noncomputable section
namespace Go.Ev.X
open Go Go.Ev Go.Proofs
theorem rp2_3f:zR 2 3 false=0:=by decide +kernel
theorem rp4_4f:zR 4 4 false=0:=by decide +kernel
theorem rp7_1f:zR 7 1 false=0:=by decide +kernel
theorem rp3_0f:zR 3 0 false=0:=by decide +kernel
end Go.Ev.X
end
