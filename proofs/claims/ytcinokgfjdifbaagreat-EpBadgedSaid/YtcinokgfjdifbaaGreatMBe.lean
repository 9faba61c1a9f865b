import Derived.Test.YtcinokgfjdifbaaGreatMB0
import Derived.Test.YtcinokgfjdifbaaGreatE6
set_option linter.unusedSimpArgs false
set_option linter.unusedVariables false
set_option maxRecDepth 100000
noncomputable section
namespace Go.Ev.X
open Go Go.Ev Go.Proofs
theorem thR_run:zW (fun t=>zW (fun q=>zW (fun g=>zW (fun c=>smK cR 62 (tdS q g c t)) zbE) zbE) zbE) zjT=true:=by decide +kernel
end Go.Ev.X
end
set_option linter.unusedSimpArgs false
set_option linter.unusedVariables false
set_option maxRecDepth 100000
noncomputable section
namespace Go.Ev.X
open Go Go.Ev Go.Proofs
theorem stR_run:zW (fun t=>zW (fun q=>zW (fun g=>zW (fun c=>smK cR 83 (sdS q g c t)) zbE) zbE) zbE) zjT=true:=by decide +kernel
end Go.Ev.X
end
