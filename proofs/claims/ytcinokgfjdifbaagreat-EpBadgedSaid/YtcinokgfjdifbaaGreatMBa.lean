import Derived.Test.YtcinokgfjdifbaaGreatMB0
set_option linter.unusedSimpArgs false
set_option linter.unusedVariables false
set_option maxRecDepth 100000
noncomputable section
namespace Go.Ev.X
open Go Go.Ev Go.Proofs
theorem rdP_run:zW (fun a=>smK cP 38 (rdS a)) (rng 512)=true:=by decide +kernel
end Go.Ev.X
end
set_option linter.unusedSimpArgs false
set_option linter.unusedVariables false
set_option maxRecDepth 100000
noncomputable section
namespace Go.Ev.X
open Go Go.Ev Go.Proofs
theorem wrP_run:zW (fun a=>smK cP 88 (wrS a)) (rng 512)=true:=by decide +kernel
end Go.Ev.X
end
set_option linter.unusedSimpArgs false
set_option linter.unusedVariables false
set_option maxRecDepth 100000
noncomputable section
namespace Go.Ev.X
open Go Go.Ev Go.Proofs
theorem thP_run:zW (fun t=>smK cP 13 (thS t)) zjT=true:=by decide +kernel
end Go.Ev.X
end
