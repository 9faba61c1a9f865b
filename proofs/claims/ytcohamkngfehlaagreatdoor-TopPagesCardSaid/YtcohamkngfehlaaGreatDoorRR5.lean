import Derived.Test.YtcohamkngfehlaaGreatDoorRD
set_option linter.unusedSimpArgs false
set_option linter.unusedVariables false
set_option maxRecDepth 100000
noncomputable section
namespace Go.Ev.X
open Go Go.Ev Go.Proofs
theorem rp1_2f:zR 1 2 false=0:=by decide +kernel
theorem rp3_3f:zR 3 3 false=0:=by decide +kernel
theorem rp5_4f:zR 5 4 false=0:=by decide +kernel
theorem rp8_1f:zR 8 1 false=0:=by decide +kernel
theorem rp7_0f:zR 7 0 false=0:=by decide +kernel
end Go.Ev.X
end
