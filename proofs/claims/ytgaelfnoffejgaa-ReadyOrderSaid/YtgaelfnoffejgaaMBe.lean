/-
 What reads and writes words and threads: runs (thR).
-/
import Derived.Test.YtgaelfnoffejgaaMB0
import Derived.Test.YtgaelfnoffejgaaE6
set_option linter.unusedSimpArgs false
set_option linter.unusedVariables false
set_option maxRecDepth 100000
noncomputable section
namespace Go.Ev.X
open Go Go.Ev Go.Proofs
end Go.Ev.X
end
/-
 What reads and writes words and threads: runs (thR).
-/
set_option linter.unusedSimpArgs false
set_option linter.unusedVariables false
set_option maxRecDepth 100000
noncomputable section
namespace Go.Ev.X
open Go Go.Ev Go.Proofs
end Go.Ev.X
end
/-
 What reads and writes words and threads: runs (thR).
-/
set_option linter.unusedSimpArgs false
set_option linter.unusedVariables false
set_option maxRecDepth 100000
noncomputable section
namespace Go.Ev.X
open Go Go.Ev Go.Proofs
end Go.Ev.X
end
