import Derived.Test.YtcohamkngfehlaaGreatDoorRD
set_option linter.unusedSimpArgs false
set_option linter.unusedVariables false
set_option maxRecDepth 100000
noncomputable section
namespace Go.Ev.X
open Go Go.Ev Go.Proofs
theorem rp1_3f:zR 1 3 false=0:=by decide +kernel
theorem rp3_4f:zR 3 4 false=0:=by decide +kernel
theorem rp6_1f:zR 6 1 false=0:=by decide +kernel
theorem rp8_2f:zR 8 2 false=0:=by decide +kernel
theorem rp8_0f:zR 8 0 false=0:=by decide +kernel
end Go.Ev.X
end
