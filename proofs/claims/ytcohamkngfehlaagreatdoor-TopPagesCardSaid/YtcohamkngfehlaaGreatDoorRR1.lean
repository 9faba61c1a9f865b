import Derived.Test.YtcohamkngfehlaaGreatDoorRD
set_option linter.unusedSimpArgs false
set_option linter.unusedVariables false
set_option maxRecDepth 100000
noncomputable section
namespace Go.Ev.X
open Go Go.Ev Go.Proofs
theorem rp0_0f:zR 0 0 false=0:=by decide +kernel
theorem rp3_1f:zR 3 1 false=0:=by decide +kernel
theorem rp5_2f:zR 5 2 false=0:=by decide +kernel
theorem rp7_3f:zR 7 3 false=0:=by decide +kernel
theorem rp5_0f:zR 5 0 false=0:=by decide +kernel
end Go.Ev.X
end
