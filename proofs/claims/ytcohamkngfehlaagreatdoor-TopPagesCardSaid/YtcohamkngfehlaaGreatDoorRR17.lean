import Derived.Test.YtcohamkngfehlaaGreatDoorRD
set_option linter.unusedSimpArgs false
set_option linter.unusedVariables false
set_option maxRecDepth 100000
noncomputable section
namespace Go.Ev.X
open Go Go.Ev Go.Proofs
theorem rp2_4f:zR 2 4 false=0:=by decide +kernel
theorem rp5_1f:zR 5 1 false=0:=by decide +kernel
theorem rp7_2f:zR 7 2 false=0:=by decide +kernel
theorem rp4_0f:zR 4 0 false=0:=by decide +kernel
end Go.Ev.X
end
