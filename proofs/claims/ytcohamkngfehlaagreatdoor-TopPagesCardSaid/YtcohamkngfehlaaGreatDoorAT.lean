import Derived.Test.YtcohamkngfehlaaGreatDoorSD
set_option linter.unusedSimpArgs false
set_option linter.unusedVariables false
set_option maxRecDepth 100000
noncomputable section
namespace Go.Ev.X
open Go Go.Ev Go.Proofs
def endB:K:=fun v _ _=>bc (V.beq v (.b true)) 0 1
theorem a_run0:za8 cx1 0 zb2 9 [] ⟨.h,.h,.e⟩ ⟨[],[]⟩ endB=0:=by decide +kernel
end Go.Ev.X
end
