/-
  All runs of the law's loops.
-/
import Derived.Test.YtedbnfdmeigabaaGreatRR0
import Derived.Test.YtedbnfdmeigabaaGreatRR1
import Derived.Test.YtedbnfdmeigabaaGreatRR2
import Derived.Test.YtedbnfdmeigabaaGreatRR3
import Derived.Test.YtedbnfdmeigabaaGreatRR4
import Derived.Test.YtedbnfdmeigabaaGreatRR5
import Derived.Test.YtedbnfdmeigabaaGreatRR6
import Derived.Test.YtedbnfdmeigabaaGreatRR7
import Derived.Test.YtedbnfdmeigabaaGreatRR8
import Derived.Test.YtedbnfdmeigabaaGreatRR9
import Derived.Test.YtedbnfdmeigabaaGreatRR10
import Derived.Test.YtedbnfdmeigabaaGreatRR11
set_option linter.unusedSimpArgs false
set_option linter.unusedVariables false
set_option maxRecDepth 100000
noncomputable section
namespace Go.Ev.X
open Go Go.Ev
theorem rg_all : ∀ j, 0 ≤ j → j < 65 → goB j = true := (seg_cat (seg_cat (seg_cat (seg_cat (seg_cat (seg_cat (seg_cat (seg_cat (rngF_ok (p := goB) rg0) (rngF_ok (p := goB) rg8)) (rngF_ok (p := goB) rg16)) (rngF_ok (p := goB) rg24)) (rngF_ok (p := goB) rg32)) (rngF_ok (p := goB) rg40)) (rngF_ok (p := goB) rg48)) (rngF_ok (p := goB) rg56)) (rngF_ok (p := goB) rg64))
theorem ro_all : ∀ j, 0 ≤ j → j < 65 → outB j = true := (seg_cat (seg_cat (seg_cat (seg_cat (rngF_ok (p := outB) ro0) (rngF_ok (p := outB) ro16)) (rngF_ok (p := outB) ro32)) (rngF_ok (p := outB) ro48)) (rngF_ok (p := outB) ro64))
theorem rh_all : ∀ j, 0 ≤ j → j < 261 → go2B j = true := (seg_cat (seg_cat (seg_cat (seg_cat (seg_cat (seg_cat (seg_cat (seg_cat (seg_cat (seg_cat (rngF_ok (p := go2B) rh0) (rngF_ok (p := go2B) rh24)) (rngF_ok (p := go2B) rh48)) (rngF_ok (p := go2B) rh72)) (rngF_ok (p := go2B) rh96)) (rngF_ok (p := go2B) rh120)) (rngF_ok (p := go2B) rh144)) (rngF_ok (p := go2B) rh168)) (rngF_ok (p := go2B) rh192)) (rngF_ok (p := go2B) rh216)) (rngF_ok (p := go2B) rh240))
end Go.Ev.X
end
