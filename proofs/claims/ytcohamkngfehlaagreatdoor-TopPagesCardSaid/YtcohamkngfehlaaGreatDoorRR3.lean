import Derived.Test.YtcohamkngfehlaaGreatDoorRD
set_option linter.unusedSimpArgs false
set_option linter.unusedVariables false
set_option maxRecDepth 100000
noncomputable section
namespace Go.Ev.X
open Go Go.Ev Go.Proofs
theorem rp1_1f:zR 1 1 false=0:=by decide +kernel
theorem rp3_2f:zR 3 2 false=0:=by decide +kernel
theorem rp5_3f:zR 5 3 false=0:=by decide +kernel
theorem rp7_4f:zR 7 4 false=0:=by decide +kernel
theorem rp6_0f:zR 6 0 false=0:=by decide +kernel
end Go.Ev.X
end
