import Derived.Test.YtcohamkngfehlaaGreatDoorRD
set_option linter.unusedSimpArgs false
set_option linter.unusedVariables false
set_option maxRecDepth 100000
noncomputable section
namespace Go.Ev.X
open Go Go.Ev Go.Proofs
theorem rp1_4t:zR 1 4 true=0:=by decide +kernel
theorem rp4_1t:zR 4 1 true=0:=by decide +kernel
theorem rp6_2t:zR 6 2 true=0:=by decide +kernel
theorem rp8_3t:zR 8 3 true=0:=by decide +kernel
end Go.Ev.X
end
