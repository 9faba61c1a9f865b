import Derived.Test.YtcinokgfjdifbaaGreatMB0
set_option linter.unusedSimpArgs false
set_option linter.unusedVariables false
set_option maxRecDepth 100000
noncomputable section
namespace Go.Ev.X
open Go Go.Ev Go.Proofs
theorem stP_run:zW (fun t=>zW (fun q=>zW (fun g=>zW (fun c=>smK cP 59 (stS q g c t)) zbE) zbE) zbE) zjT=true:=by decide +kernel
end Go.Ev.X
end
