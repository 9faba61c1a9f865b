/-
 Contracts: which thread is the current one; the front of a queue; the highest one (the program's).
-/
import Derived.Test.YtgaelfnoffejgaaMWp
set_option linter.unusedSimpArgs false
set_option linter.unusedVariables false
set_option maxRecDepth 100000
noncomputable section
namespace Go.Ev.X
open Go Go.Ev Go.Proofs Go.RowKit
variable {E : Env} {f : Nat → Int} {Q : Nat → List Nat} {t : Nat}
end Go.Ev.X
end
