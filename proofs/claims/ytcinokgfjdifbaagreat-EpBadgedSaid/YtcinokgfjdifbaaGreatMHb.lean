import Derived.Test.YtcinokgfjdifbaaGreatMH2r
set_option linter.unusedSimpArgs false
set_option linter.unusedVariables false
set_option maxRecDepth 100000
noncomputable section
namespace Go.Ev.X
open Go Go.Ev Go.Proofs Go.RowKit
theorem hrr0:zW (fun i=>Nat.beq (zr (0+i)) 0) (rng 32)=true:=by decide +kernel
end Go.Ev.X
end
set_option linter.unusedSimpArgs false
set_option linter.unusedVariables false
set_option maxRecDepth 100000
noncomputable section
namespace Go.Ev.X
open Go Go.Ev Go.Proofs Go.RowKit
theorem hrr1:zW (fun i=>Nat.beq (zr (32+i)) 0) (rng 32)=true:=by decide +kernel
end Go.Ev.X
end
