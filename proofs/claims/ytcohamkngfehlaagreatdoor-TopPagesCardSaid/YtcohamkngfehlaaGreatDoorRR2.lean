import Derived.Test.YtcohamkngfehlaaGreatDoorRD
set_option linter.unusedSimpArgs false
set_option linter.unusedVariables false
set_option maxRecDepth 100000
noncomputable section
namespace Go.Ev.X
open Go Go.Ev Go.Proofs
theorem rp1_1t:zR 1 1 true=0:=by decide +kernel
theorem rp3_2t:zR 3 2 true=0:=by decide +kernel
theorem rp5_3t:zR 5 3 true=0:=by decide +kernel
theorem rp7_4t:zR 7 4 true=0:=by decide +kernel
theorem rp6_0t:zR 6 0 true=0:=by decide +kernel
end Go.Ev.X
end
