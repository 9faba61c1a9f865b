import Derived.Test.YtcohamkngfehlaaGreatDoorRD
set_option linter.unusedSimpArgs false
set_option linter.unusedVariables false
set_option maxRecDepth 100000
noncomputable section
namespace Go.Ev.X
open Go Go.Ev Go.Proofs
theorem rp0_0t:zR 0 0 true=0:=by decide +kernel
theorem rp3_1t:zR 3 1 true=0:=by decide +kernel
theorem rp5_2t:zR 5 2 true=0:=by decide +kernel
theorem rp7_3t:zR 7 3 true=0:=by decide +kernel
theorem rp5_0t:zR 5 0 true=0:=by decide +kernel
end Go.Ev.X
end
