import Derived.Test.YtcinokgfjdifbaaGreatMH2r
set_option linter.unusedSimpArgs false
set_option linter.unusedVariables false
set_option maxRecDepth 100000
noncomputable section
namespace Go.Ev.X
open Go Go.Ev Go.Proofs Go.RowKit
theorem hrr6:zW (fun i=>Nat.beq (zr (192+i)) 0) (rng 32)=true:=by decide +kernel
end Go.Ev.X
end
set_option linter.unusedSimpArgs false
set_option linter.unusedVariables false
set_option maxRecDepth 100000
noncomputable section
namespace Go.Ev.X
open Go Go.Ev Go.Proofs Go.RowKit
theorem hrr7:zW (fun i=>Nat.beq (zr (224+i)) 0) (rng 32)=true:=by decide +kernel
end Go.Ev.X
end
