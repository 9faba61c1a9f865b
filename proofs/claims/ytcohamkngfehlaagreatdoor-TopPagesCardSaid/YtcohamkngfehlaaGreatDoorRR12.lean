import Derived.Test.YtcohamkngfehlaaGreatDoorRD
set_option linter.unusedSimpArgs false
set_option linter.unusedVariables false
set_option maxRecDepth 100000
noncomputable section
namespace Go.Ev.X
open Go Go.Ev Go.Proofs
theorem rp2_2t:zR 2 2 true=0:=by decide +kernel
theorem rp4_3t:zR 4 3 true=0:=by decide +kernel
theorem rp6_4t:zR 6 4 true=0:=by decide +kernel
theorem rp2_0t:zR 2 0 true=0:=by decide +kernel
end Go.Ev.X
end
