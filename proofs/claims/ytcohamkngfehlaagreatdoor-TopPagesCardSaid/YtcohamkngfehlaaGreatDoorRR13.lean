import Derived.Test.YtcohamkngfehlaaGreatDoorRD
set_option linter.unusedSimpArgs false
set_option linter.unusedVariables false
set_option maxRecDepth 100000
noncomputable section
namespace Go.Ev.X
open Go Go.Ev Go.Proofs
theorem rp2_2f:zR 2 2 false=0:=by decide +kernel
theorem rp4_3f:zR 4 3 false=0:=by decide +kernel
theorem rp6_4f:zR 6 4 false=0:=by decide +kernel
theorem rp2_0f:zR 2 0 false=0:=by decide +kernel
end Go.Ev.X
end
