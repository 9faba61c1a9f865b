/-
  All runs.
-/
import Derived.Test.YtipodcoiioifkaaGreatRR0
import Derived.Test.YtipodcoiioifkaaGreatRR1
import Derived.Test.YtipodcoiioifkaaGreatRR2
import Derived.Test.YtipodcoiioifkaaGreatRR3
import Derived.Test.YtipodcoiioifkaaGreatRR4
import Derived.Test.YtipodcoiioifkaaGreatRR5
import Derived.Test.YtipodcoiioifkaaGreatRR6
import Derived.Test.YtipodcoiioifkaaGreatRR7
set_option linter.unusedSimpArgs false
set_option linter.unusedVariables false
set_option maxRecDepth 100000
noncomputable section
namespace Go.Ev.X
open Go Go.Ev
theorem rb : ∀ x, x < 40 → rowB x = true
  | 0, _ => rb0
  | 1, _ => rb1
  | 2, _ => rb2
  | 3, _ => rb3
  | 4, _ => rb4
  | 5, _ => rb5
  | 6, _ => rb6
  | 7, _ => rb7
  | 8, _ => rb8
  | 9, _ => rb9
  | 10, _ => rb10
  | 11, _ => rb11
  | 12, _ => rb12
  | 13, _ => rb13
  | 14, _ => rb14
  | 15, _ => rb15
  | 16, _ => rb16
  | 17, _ => rb17
  | 18, _ => rb18
  | 19, _ => rb19
  | 20, _ => rb20
  | 21, _ => rb21
  | 22, _ => rb22
  | 23, _ => rb23
  | 24, _ => rb24
  | 25, _ => rb25
  | 26, _ => rb26
  | 27, _ => rb27
  | 28, _ => rb28
  | 29, _ => rb29
  | 30, _ => rb30
  | 31, _ => rb31
  | 32, _ => rb32
  | 33, _ => rb33
  | 34, _ => rb34
  | 35, _ => rb35
  | 36, _ => rb36
  | 37, _ => rb37
  | 38, _ => rb38
  | 39, _ => rb39
  | n + 40, h => absurd h (by omega)
end Go.Ev.X
end
