/-
 Functions with one loop, whatever they hand back: what stands at the end, told in symbols; such a function as a known call.
-/
import Derived.Test.YtgaelfnoffejgaaE5
import Derived.Test.YtgaelfnoffejgaaE6
set_option linter.unusedSimpArgs false
set_option linter.unusedVariables false
noncomputable section
namespace Go.Ev
open Go Go.RowKit
variable {E E' : Env} {P : Program} {N : Nat}
end Go.Ev
end
