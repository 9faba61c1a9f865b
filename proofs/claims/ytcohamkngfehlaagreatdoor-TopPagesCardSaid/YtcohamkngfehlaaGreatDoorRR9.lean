import Derived.Test.YtcohamkngfehlaaGreatDoorRD
set_option linter.unusedSimpArgs false
set_option linter.unusedVariables false
set_option maxRecDepth 100000
noncomputable section
namespace Go.Ev.X
open Go Go.Ev Go.Proofs
theorem rp1_4f:zR 1 4 false=0:=by decide +kernel
theorem rp4_1f:zR 4 1 false=0:=by decide +kernel
theorem rp6_2f:zR 6 2 false=0:=by decide +kernel
theorem rp8_3f:zR 8 3 false=0:=by decide +kernel
end Go.Ev.X
end
