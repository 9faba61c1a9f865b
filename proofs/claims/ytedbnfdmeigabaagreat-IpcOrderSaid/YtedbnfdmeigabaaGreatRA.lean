/-
  All runs of the law's loops.
-/
import Derived.Test.YtedbnfdmeigabaaGreatRR0
import Derived.Test.YtedbnfdmeigabaaGreatRR1
import Derived.Test.YtedbnfdmeigabaaGreatRR2
import Derived.Test.YtedbnfdmeigabaaGreatRR3
import Derived.Test.YtedbnfdmeigabaaGreatRR4
import Derived.Test.YtedbnfdmeigabaaGreatRR5
import Derived.Test.YtedbnfdmeigabaaGreatRR6
import Derived.Test.YtedbnfdmeigabaaGreatRR7
set_option linter.unusedSimpArgs false
set_option linter.unusedVariables false
set_option maxRecDepth 100000
noncomputable section
namespace Go.Ev.X
open Go Go.Ev
theorem rg_all : ∀ j, 0 ≤ j → j < 16 → goB j = true := (seg_cat (rngF_ok (p := goB) rg0) (rngF_ok (p := goB) rg8))
theorem ro_all : ∀ j, 0 ≤ j → j < 16 → outB j = true := (seg_cat (rngF_ok (p := outB) ro0) (rngF_ok (p := outB) ro8))
theorem rh_all : ∀ j, 0 ≤ j → j < 49 → go2B j = true := (seg_cat (seg_cat (seg_cat (seg_cat (rngF_ok (p := go2B) rh0) (rngF_ok (p := go2B) rh12)) (rngF_ok (p := go2B) rh24)) (rngF_ok (p := go2B) rh36)) (rngF_ok (p := go2B) rh48))
end Go.Ev.X
end
