import Derived.Test.YtcohamkngfehlaaGreatDoorRD
set_option linter.unusedSimpArgs false
set_option linter.unusedVariables false
set_option maxRecDepth 100000
noncomputable section
namespace Go.Ev.X
open Go Go.Ev Go.Proofs
theorem rp1_3t:zR 1 3 true=0:=by decide +kernel
theorem rp3_4t:zR 3 4 true=0:=by decide +kernel
theorem rp6_1t:zR 6 1 true=0:=by decide +kernel
theorem rp8_2t:zR 8 2 true=0:=by decide +kernel
theorem rp8_0t:zR 8 0 true=0:=by decide +kernel
end Go.Ev.X
end
