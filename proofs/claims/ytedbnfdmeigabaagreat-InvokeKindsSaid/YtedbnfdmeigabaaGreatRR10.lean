/-
  The runs, part 10.
-/
import Derived.Test.YtedbnfdmeigabaaGreatRD
set_option linter.unusedSimpArgs false
set_option linter.unusedVariables false
set_option maxRecDepth 100000
noncomputable section
namespace Go.Ev.X
open Go Go.Ev
theorem pp12 : runP 12 2096 = 0 := by decide +kernel
theorem pb12 : runK 2096 (.si .i64 (.mm false (.v 1) (.lit 17))) = 0 := by decide +kernel
theorem pa12 : runK 2096 (.si .i64 (.mm true (.v 1) (.lit 20))) = 0 := by decide +kernel
theorem pl12_18 : runK 2096 (.i .i64 18) = 0 := by decide +kernel
theorem pl12_19 : runK 2096 (.i .i64 19) = 0 := by decide +kernel
theorem ok12 : OkP 12 2096 18 19 := ⟨pp12, pb12, pa12, (fun L h1 h2 => by
  have h : L = 18 ∨ L = 19 := by omega
  rcases h with rfl | rfl
  · exact pl12_18
  · exact pl12_19)⟩
theorem pp6 : runP 6 2072 = 0 := by decide +kernel
theorem pb6 : runK 2072 (.si .i64 (.mm false (.v 1) (.lit (-1)))) = 0 := by decide +kernel
theorem pa6 : runK 2072 (.si .i64 (.mm true (.v 1) (.lit 1))) = 0 := by decide +kernel
theorem pl6_0 : runK 2072 (.i .i64 0) = 0 := by decide +kernel
theorem ok6 : OkP 6 2072 0 0 := ⟨pp6, pb6, pa6, (fun L h1 h2 => by
  have h : L = 0 := by omega
  subst h
  exact pl6_0)⟩
theorem pp18 : runP 18 2120 = 0 := by decide +kernel
theorem pb18 : runK 2120 (.si .i64 (.mm false (.v 1) (.lit 20))) = 0 := by decide +kernel
theorem pa18 : runK 2120 (.si .i64 (.mm true (.v 1) (.lit 22))) = 0 := by decide +kernel
theorem pl18_21 : runK 2120 (.i .i64 21) = 0 := by decide +kernel
theorem ok18 : OkP 18 2120 21 21 := ⟨pp18, pb18, pa18, (fun L h1 h2 => by
  have h : L = 21 := by omega
  subst h
  exact pl18_21)⟩
theorem pp30 : runP 30 2168 = 0 := by decide +kernel
theorem pb30 : runK 2168 (.si .i64 (.mm false (.v 1) (.lit (-1)))) = 0 := by decide +kernel
theorem pa30 : runK 2168 (.si .i64 (.mm true (.v 1) (.lit 1))) = 0 := by decide +kernel
theorem pl30_0 : runK 2168 (.i .i64 0) = 0 := by decide +kernel
theorem ok30 : OkP 30 2168 0 0 := ⟨pp30, pb30, pa30, (fun L h1 h2 => by
  have h : L = 0 := by omega
  subst h
  exact pl30_0)⟩
end Go.Ev.X
end
