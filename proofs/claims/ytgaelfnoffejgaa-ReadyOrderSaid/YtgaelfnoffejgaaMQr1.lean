/-
 Their runs, 1.
-/
import Derived.Test.YtgaelfnoffejgaaMQx
set_option linter.unusedSimpArgs false
set_option linter.unusedVariables false
set_option maxRecDepth 100000
noncomputable section
namespace Go.Ev.X
open Go Go.Ev Go.Proofs
variable {E : Env} {f : Nat → Int}
end Go.Ev.X
end
