/-
  All runs of the law's loops.
-/
import Derived.Test.YtedbnfdmeigabaaRR0
import Derived.Test.YtedbnfdmeigabaaRR1
import Derived.Test.YtedbnfdmeigabaaRR2
import Derived.Test.YtedbnfdmeigabaaRR3
import Derived.Test.YtedbnfdmeigabaaRR4
import Derived.Test.YtedbnfdmeigabaaRR5
import Derived.Test.YtedbnfdmeigabaaRR6
import Derived.Test.YtedbnfdmeigabaaRR7
import Derived.Test.YtedbnfdmeigabaaRR8
import Derived.Test.YtedbnfdmeigabaaRR9
import Derived.Test.YtedbnfdmeigabaaRR10
import Derived.Test.YtedbnfdmeigabaaRR11
set_option linter.unusedSimpArgs false
set_option linter.unusedVariables false
set_option maxRecDepth 100000
noncomputable section
namespace Go.Ev.X
open Go Go.Ev
theorem rg_all : ∀ j, 0 ≤ j → j < 130 → goB j = true := (seg_cat (seg_cat (seg_cat (seg_cat (seg_cat (seg_cat (seg_cat (seg_cat (seg_cat (seg_cat (seg_cat (seg_cat (seg_cat (seg_cat (seg_cat (seg_cat (rngF_ok (p := goB) rg0) (rngF_ok (p := goB) rg8)) (rngF_ok (p := goB) rg16)) (rngF_ok (p := goB) rg24)) (rngF_ok (p := goB) rg32)) (rngF_ok (p := goB) rg40)) (rngF_ok (p := goB) rg48)) (rngF_ok (p := goB) rg56)) (rngF_ok (p := goB) rg64)) (rngF_ok (p := goB) rg72)) (rngF_ok (p := goB) rg80)) (rngF_ok (p := goB) rg88)) (rngF_ok (p := goB) rg96)) (rngF_ok (p := goB) rg104)) (rngF_ok (p := goB) rg112)) (rngF_ok (p := goB) rg120)) (rngF_ok (p := goB) rg128))
theorem ro_all : ∀ j, 0 ≤ j → j < 130 → outB j = true := (seg_cat (seg_cat (seg_cat (seg_cat (seg_cat (seg_cat (seg_cat (seg_cat (rngF_ok (p := outB) ro0) (rngF_ok (p := outB) ro16)) (rngF_ok (p := outB) ro32)) (rngF_ok (p := outB) ro48)) (rngF_ok (p := outB) ro64)) (rngF_ok (p := outB) ro80)) (rngF_ok (p := outB) ro96)) (rngF_ok (p := outB) ro112)) (rngF_ok (p := outB) ro128))
theorem rh_all : ∀ j, 0 ≤ j → j < 522 → go2B j = true := (seg_cat (seg_cat (seg_cat (seg_cat (seg_cat (seg_cat (seg_cat (seg_cat (seg_cat (seg_cat (seg_cat (seg_cat (seg_cat (seg_cat (seg_cat (seg_cat (seg_cat (seg_cat (seg_cat (seg_cat (seg_cat (rngF_ok (p := go2B) rh0) (rngF_ok (p := go2B) rh24)) (rngF_ok (p := go2B) rh48)) (rngF_ok (p := go2B) rh72)) (rngF_ok (p := go2B) rh96)) (rngF_ok (p := go2B) rh120)) (rngF_ok (p := go2B) rh144)) (rngF_ok (p := go2B) rh168)) (rngF_ok (p := go2B) rh192)) (rngF_ok (p := go2B) rh216)) (rngF_ok (p := go2B) rh240)) (rngF_ok (p := go2B) rh264)) (rngF_ok (p := go2B) rh288)) (rngF_ok (p := go2B) rh312)) (rngF_ok (p := go2B) rh336)) (rngF_ok (p := go2B) rh360)) (rngF_ok (p := go2B) rh384)) (rngF_ok (p := go2B) rh408)) (rngF_ok (p := go2B) rh432)) (rngF_ok (p := go2B) rh456)) (rngF_ok (p := go2B) rh480)) (rngF_ok (p := go2B) rh504))
end Go.Ev.X
end
