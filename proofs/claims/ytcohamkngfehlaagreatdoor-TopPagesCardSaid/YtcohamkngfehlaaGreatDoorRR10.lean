import Derived.Test.YtcohamkngfehlaaGreatDoorRD
set_option linter.unusedSimpArgs false
set_option linter.unusedVariables false
set_option maxRecDepth 100000
noncomputable section
namespace Go.Ev.X
open Go Go.Ev Go.Proofs
theorem rp2_1t:zR 2 1 true=0:=by decide +kernel
theorem rp4_2t:zR 4 2 true=0:=by decide +kernel
theorem rp6_3t:zR 6 3 true=0:=by decide +kernel
theorem rp1_0t:zR 1 0 true=0:=by decide +kernel
end Go.Ev.X
end
