import Derived.Test.YtcohamkngfehlaaGreatDoorRD
set_option linter.unusedSimpArgs false
set_option linter.unusedVariables false
set_option maxRecDepth 100000
noncomputable section
namespace Go.Ev.X
open Go Go.Ev Go.Proofs
theorem rp2_4t:zR 2 4 true=0:=by decide +kernel
theorem rp5_1t:zR 5 1 true=0:=by decide +kernel
theorem rp7_2t:zR 7 2 true=0:=by decide +kernel
theorem rp4_0t:zR 4 0 true=0:=by decide +kernel
end Go.Ev.X
end
