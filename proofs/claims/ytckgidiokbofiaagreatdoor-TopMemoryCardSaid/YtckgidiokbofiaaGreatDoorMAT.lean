import Derived.Test.YtckgidiokbofiaaGreatDoorMSD
set_option linter.unusedSimpArgs false
set_option linter.unusedVariables false
set_option maxRecDepth 100000
noncomputable section
namespace Go.Ev.X
open Go Go.Ev Go.Proofs
def endB:K:=fun v _ _=>bc (V.beq v (.b true)) 0 1
theorem a_run0:zbb cx1 0 zbm 6 [] ⟨.h,.h,.e⟩ ⟨[],[]⟩ endB=0:=by decide +kernel
end Go.Ev.X
end
