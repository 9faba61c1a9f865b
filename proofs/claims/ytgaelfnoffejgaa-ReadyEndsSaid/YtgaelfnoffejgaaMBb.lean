/-
 What reads and writes words and threads: runs (thP).
-/
import Derived.Test.YtgaelfnoffejgaaMB0
set_option linter.unusedSimpArgs false
set_option linter.unusedVariables false
set_option maxRecDepth 100000
noncomputable section
namespace Go.Ev.X
open Go Go.Ev Go.Proofs
end Go.Ev.X
end
