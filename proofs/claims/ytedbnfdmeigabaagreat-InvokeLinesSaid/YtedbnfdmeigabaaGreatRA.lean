/-
  All runs.
-/
import Derived.Test.YtedbnfdmeigabaaGreatRR0
import Derived.Test.YtedbnfdmeigabaaGreatRR1
import Derived.Test.YtedbnfdmeigabaaGreatRR2
import Derived.Test.YtedbnfdmeigabaaGreatRR3
import Derived.Test.YtedbnfdmeigabaaGreatRR4
import Derived.Test.YtedbnfdmeigabaaGreatRR5
import Derived.Test.YtedbnfdmeigabaaGreatRR6
import Derived.Test.YtedbnfdmeigabaaGreatRR7
set_option linter.unusedSimpArgs false
set_option linter.unusedVariables false
set_option maxRecDepth 100000
noncomputable section
namespace Go.Ev.X
open Go Go.Ev
theorem rb : ∀ x, x < 16 → ∀ y, y < 3 → runB x y = 0
  | 0, _, 0, _ => rb0_0
  | 0, _, 1, _ => rb0_1
  | 0, _, 2, _ => rb0_2
  | 0, _, n + 3, h => absurd h (by omega)
  | 1, _, 0, _ => rb1_0
  | 1, _, 1, _ => rb1_1
  | 1, _, 2, _ => rb1_2
  | 1, _, n + 3, h => absurd h (by omega)
  | 2, _, 0, _ => rb2_0
  | 2, _, 1, _ => rb2_1
  | 2, _, 2, _ => rb2_2
  | 2, _, n + 3, h => absurd h (by omega)
  | 3, _, 0, _ => rb3_0
  | 3, _, 1, _ => rb3_1
  | 3, _, 2, _ => rb3_2
  | 3, _, n + 3, h => absurd h (by omega)
  | 4, _, 0, _ => rb4_0
  | 4, _, 1, _ => rb4_1
  | 4, _, 2, _ => rb4_2
  | 4, _, n + 3, h => absurd h (by omega)
  | 5, _, 0, _ => rb5_0
  | 5, _, 1, _ => rb5_1
  | 5, _, 2, _ => rb5_2
  | 5, _, n + 3, h => absurd h (by omega)
  | 6, _, 0, _ => rb6_0
  | 6, _, 1, _ => rb6_1
  | 6, _, 2, _ => rb6_2
  | 6, _, n + 3, h => absurd h (by omega)
  | 7, _, 0, _ => rb7_0
  | 7, _, 1, _ => rb7_1
  | 7, _, 2, _ => rb7_2
  | 7, _, n + 3, h => absurd h (by omega)
  | 8, _, 0, _ => rb8_0
  | 8, _, 1, _ => rb8_1
  | 8, _, 2, _ => rb8_2
  | 8, _, n + 3, h => absurd h (by omega)
  | 9, _, 0, _ => rb9_0
  | 9, _, 1, _ => rb9_1
  | 9, _, 2, _ => rb9_2
  | 9, _, n + 3, h => absurd h (by omega)
  | 10, _, 0, _ => rb10_0
  | 10, _, 1, _ => rb10_1
  | 10, _, 2, _ => rb10_2
  | 10, _, n + 3, h => absurd h (by omega)
  | 11, _, 0, _ => rb11_0
  | 11, _, 1, _ => rb11_1
  | 11, _, 2, _ => rb11_2
  | 11, _, n + 3, h => absurd h (by omega)
  | 12, _, 0, _ => rb12_0
  | 12, _, 1, _ => rb12_1
  | 12, _, 2, _ => rb12_2
  | 12, _, n + 3, h => absurd h (by omega)
  | 13, _, 0, _ => rb13_0
  | 13, _, 1, _ => rb13_1
  | 13, _, 2, _ => rb13_2
  | 13, _, n + 3, h => absurd h (by omega)
  | 14, _, 0, _ => rb14_0
  | 14, _, 1, _ => rb14_1
  | 14, _, 2, _ => rb14_2
  | 14, _, n + 3, h => absurd h (by omega)
  | 15, _, 0, _ => rb15_0
  | 15, _, 1, _ => rb15_1
  | 15, _, 2, _ => rb15_2
  | 15, _, n + 3, h => absurd h (by omega)
  | n + 16, h, _, _ => absurd h (by omega)
end Go.Ev.X
end
