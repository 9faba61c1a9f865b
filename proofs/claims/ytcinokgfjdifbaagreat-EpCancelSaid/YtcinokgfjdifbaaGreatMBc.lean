import Derived.Test.YtcinokgfjdifbaaGreatMB0
set_option linter.unusedSimpArgs false
set_option linter.unusedVariables false
set_option maxRecDepth 100000
noncomputable section
namespace Go.Ev.X
open Go Go.Ev Go.Proofs
theorem stP_run:zX (fun t=>zX (fun q=>zX (fun g=>zX (fun c=>smK cP 59 (stS q g c t)) zbG) zbG) zbG) zkg=true:=by decide +kernel
end Go.Ev.X
end
