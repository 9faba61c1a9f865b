/-
 Contracts of dropping (the document).
-/
import Derived.Test.YtgaelfnoffejgaaMPr
import Derived.Test.YtgaelfnoffejgaaMDq
set_option linter.unusedSimpArgs false
set_option linter.unusedVariables false
set_option maxRecDepth 100000
noncomputable section
namespace Go.Ev.X
open Go Go.Ev Go.Proofs
variable {f : Nat → Int} {Q : Nat → List Nat} {t : Nat}
end Go.Ev.X
end
