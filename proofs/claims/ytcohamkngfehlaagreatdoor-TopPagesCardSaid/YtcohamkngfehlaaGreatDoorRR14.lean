import Derived.Test.YtcohamkngfehlaaGreatDoorRD
set_option linter.unusedSimpArgs false
set_option linter.unusedVariables false
set_option maxRecDepth 100000
noncomputable section
namespace Go.Ev.X
open Go Go.Ev Go.Proofs
theorem rp2_3t:zR 2 3 true=0:=by decide +kernel
theorem rp4_4t:zR 4 4 true=0:=by decide +kernel
theorem rp7_1t:zR 7 1 true=0:=by decide +kernel
theorem rp3_0t:zR 3 0 true=0:=by decide +kernel
end Go.Ev.X
end
