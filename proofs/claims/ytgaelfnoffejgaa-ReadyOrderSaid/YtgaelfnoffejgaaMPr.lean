/-
 Contracts of pushing (the document).
-/
import Derived.Test.YtgaelfnoffejgaaMQR
import Derived.Test.YtgaelfnoffejgaaMPp
set_option linter.unusedSimpArgs false
set_option linter.unusedVariables false
set_option maxRecDepth 100000
noncomputable section
namespace Go.Ev.X
open Go Go.Ev Go.Proofs
variable {f : Nat → Int} {Q : Nat → List Nat} {t : Nat}
end Go.Ev.X
end
