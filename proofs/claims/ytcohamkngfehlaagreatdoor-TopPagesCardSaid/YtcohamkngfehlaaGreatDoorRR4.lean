import Derived.Test.YtcohamkngfehlaaGreatDoorRD
set_option linter.unusedSimpArgs false
set_option linter.unusedVariables false
set_option maxRecDepth 100000
noncomputable section
namespace Go.Ev.X
open Go Go.Ev Go.Proofs
theorem rp1_2t:zR 1 2 true=0:=by decide +kernel
theorem rp3_3t:zR 3 3 true=0:=by decide +kernel
theorem rp5_4t:zR 5 4 true=0:=by decide +kernel
theorem rp8_1t:zR 8 1 true=0:=by decide +kernel
theorem rp7_0t:zR 7 0 true=0:=by decide +kernel
end Go.Ev.X
end
