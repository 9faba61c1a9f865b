import Derived.Test.YtcinokgfjdifbaaGreatMB0
import Derived.Test.YtcinokgfjdifbaaGreatE6
set_option linter.unusedSimpArgs false
set_option linter.unusedVariables false
set_option maxRecDepth 100000
noncomputable section
namespace Go.Ev.X
open Go Go.Ev Go.Proofs
theorem thR_run:zX (fun t=>zX (fun q=>zX (fun g=>zX (fun c=>smK cR 62 (tdS q g c t)) zbG) zbG) zbG) zkg=true:=by decide +kernel
end Go.Ev.X
end
set_option linter.unusedSimpArgs false
set_option linter.unusedVariables false
set_option maxRecDepth 100000
noncomputable section
namespace Go.Ev.X
open Go Go.Ev Go.Proofs
theorem stR_run:zX (fun t=>zX (fun q=>zX (fun g=>zX (fun c=>smK cR 83 (sdS q g c t)) zbG) zbG) zbG) zkg=true:=by decide +kernel
end Go.Ev.X
end
