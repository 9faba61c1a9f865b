import Derived.Test.YtcohamkngfehlaaGreatDoorRD
set_option linter.unusedSimpArgs false
set_option linter.unusedVariables false
set_option maxRecDepth 100000
noncomputable section
namespace Go.Ev.X
open Go Go.Ev Go.Proofs
theorem rp2_1f:zR 2 1 false=0:=by decide +kernel
theorem rp4_2f:zR 4 2 false=0:=by decide +kernel
theorem rp6_3f:zR 6 3 false=0:=by decide +kernel
theorem rp1_0f:zR 1 0 false=0:=by decide +kernel
end Go.Ev.X
end
