/-
 Their runs, 1.
-/
import Derived.Test.YtgaelfnoffejgaaMQx
import Derived.Test.YtgaelfnoffejgaaMQ
import Derived.Test.YtgaelfnoffejgaaMBz
set_option linter.unusedSimpArgs false
set_option linter.unusedVariables false
set_option maxRecDepth 100000
noncomputable section
namespace Go.Ev.X
open Go Go.Ev Go.Proofs
variable {E : Env} {f : Nat → Int}
end Go.Ev.X
end
/-
 Their runs, 4.
-/
set_option linter.unusedSimpArgs false
set_option linter.unusedVariables false
set_option maxRecDepth 100000
noncomputable section
namespace Go.Ev.X
open Go Go.Ev Go.Proofs
variable {E : Env} {f : Nat → Int}
end Go.Ev.X
end
/-
 The same of the document's.
-/
set_option linter.unusedSimpArgs false
set_option linter.unusedVariables false
set_option maxRecDepth 100000
noncomputable section
namespace Go.Ev.X
open Go Go.Ev Go.Proofs
variable {E : Env} {f : Nat → Int}
end Go.Ev.X
end
