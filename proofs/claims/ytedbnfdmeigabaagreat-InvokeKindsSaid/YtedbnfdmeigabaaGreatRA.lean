/-
  All runs.
-/
import Derived.Test.YtedbnfdmeigabaaGreatRR0
import Derived.Test.YtedbnfdmeigabaaGreatRR1
import Derived.Test.YtedbnfdmeigabaaGreatRR2
import Derived.Test.YtedbnfdmeigabaaGreatRR3
import Derived.Test.YtedbnfdmeigabaaGreatRR4
import Derived.Test.YtedbnfdmeigabaaGreatRR5
import Derived.Test.YtedbnfdmeigabaaGreatRR6
import Derived.Test.YtedbnfdmeigabaaGreatRR7
import Derived.Test.YtedbnfdmeigabaaGreatRR8
import Derived.Test.YtedbnfdmeigabaaGreatRR9
import Derived.Test.YtedbnfdmeigabaaGreatRR10
import Derived.Test.YtedbnfdmeigabaaGreatRR11
set_option linter.unusedSimpArgs false
set_option linter.unusedVariables false
set_option maxRecDepth 100000
noncomputable section
namespace Go.Ev.X
open Go Go.Ev
theorem rb : ∀ x, x < 36 → ∃ s lo hi, OkP x s lo hi
  | 0, _ => ⟨_, _, _, ok0⟩
  | 1, _ => ⟨_, _, _, ok1⟩
  | 2, _ => ⟨_, _, _, ok2⟩
  | 3, _ => ⟨_, _, _, ok3⟩
  | 4, _ => ⟨_, _, _, ok4⟩
  | 5, _ => ⟨_, _, _, ok5⟩
  | 6, _ => ⟨_, _, _, ok6⟩
  | 7, _ => ⟨_, _, _, ok7⟩
  | 8, _ => ⟨_, _, _, ok8⟩
  | 9, _ => ⟨_, _, _, ok9⟩
  | 10, _ => ⟨_, _, _, ok10⟩
  | 11, _ => ⟨_, _, _, ok11⟩
  | 12, _ => ⟨_, _, _, ok12⟩
  | 13, _ => ⟨_, _, _, ok13⟩
  | 14, _ => ⟨_, _, _, ok14⟩
  | 15, _ => ⟨_, _, _, ok15⟩
  | 16, _ => ⟨_, _, _, ok16⟩
  | 17, _ => ⟨_, _, _, ok17⟩
  | 18, _ => ⟨_, _, _, ok18⟩
  | 19, _ => ⟨_, _, _, ok19⟩
  | 20, _ => ⟨_, _, _, ok20⟩
  | 21, _ => ⟨_, _, _, ok21⟩
  | 22, _ => ⟨_, _, _, ok22⟩
  | 23, _ => ⟨_, _, _, ok23⟩
  | 24, _ => ⟨_, _, _, ok24⟩
  | 25, _ => ⟨_, _, _, ok25⟩
  | 26, _ => ⟨_, _, _, ok26⟩
  | 27, _ => ⟨_, _, _, ok27⟩
  | 28, _ => ⟨_, _, _, ok28⟩
  | 29, _ => ⟨_, _, _, ok29⟩
  | 30, _ => ⟨_, _, _, ok30⟩
  | 31, _ => ⟨_, _, _, ok31⟩
  | 32, _ => ⟨_, _, _, ok32⟩
  | 33, _ => ⟨_, _, _, ok33⟩
  | 34, _ => ⟨_, _, _, ok34⟩
  | 35, _ => ⟨_, _, _, ok35⟩
  | n + 36, h => absurd h (by omega)
end Go.Ev.X
end
