import Derived.Test.YtcinokgfjdifbaaGreatMB0
set_option linter.unusedSimpArgs false
set_option linter.unusedVariables false
set_option maxRecDepth 100000
noncomputable section
namespace Go.Ev.X
open Go Go.Ev Go.Proofs
theorem rdR_run:zW (fun a=>smK cR 92 (rdS a)) (rng 512)=true:=by decide +kernel
end Go.Ev.X
end
set_option linter.unusedSimpArgs false
set_option linter.unusedVariables false
set_option maxRecDepth 100000
noncomputable section
namespace Go.Ev.X
open Go Go.Ev Go.Proofs
theorem wrR_run:zW (fun a=>smK cR 117 (wrS a)) (rng 512)=true:=by decide +kernel
end Go.Ev.X
end
