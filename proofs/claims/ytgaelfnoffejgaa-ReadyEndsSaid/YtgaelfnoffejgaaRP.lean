/-
 The queues' words are told by the queues; what goes round comes back.
-/
import Derived.Test.YtgaelfnoffejgaaMHp
import Derived.Test.YtgaelfnoffejgaaMOz
import Derived.Test.YtgaelfnoffejgaaE6
set_option linter.unusedSimpArgs false
set_option linter.unusedVariables false
set_option maxRecDepth 100000
noncomputable section
namespace Go.Ev.X
open Go Go.Ev Go.Proofs
variable {E : Env} {f f' : Nat → Int} {Q : Nat → List Nat} {t : Nat}
end Go.Ev.X
end
