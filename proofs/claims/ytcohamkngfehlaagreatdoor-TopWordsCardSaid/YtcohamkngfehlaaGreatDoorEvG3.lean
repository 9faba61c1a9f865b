import Derived.Test.YtcohamkngfehlaaGreatDoorE5
set_option linter.unusedSimpArgs false
set_option linter.unusedVariables false
noncomputable section
namespace Go.Ev
open Go Go.RowKit
variable {E E':Env} {P:Program} {N:Nat}
end Go.Ev
end
