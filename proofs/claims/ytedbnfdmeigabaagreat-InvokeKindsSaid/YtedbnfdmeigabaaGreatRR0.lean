/-
  The runs, part 0.
-/
import Derived.Test.YtedbnfdmeigabaaGreatRD
set_option linter.unusedSimpArgs false
set_option linter.unusedVariables false
set_option maxRecDepth 100000
noncomputable section
namespace Go.Ev.X
open Go Go.Ev
theorem pp1 : runP 1 2052 = 0 := by decide +kernel
theorem pb1 : runK 2052 (.si .i64 (.mm false (.v 1) (.lit 1))) = 0 := by decide +kernel
theorem pa1 : runK 2052 (.si .i64 (.mm true (.v 1) (.lit 10))) = 0 := by decide +kernel
theorem pl1_2 : runK 2052 (.i .i64 2) = 0 := by decide +kernel
theorem pl1_3 : runK 2052 (.i .i64 3) = 0 := by decide +kernel
theorem pl1_4 : runK 2052 (.i .i64 4) = 0 := by decide +kernel
theorem pl1_5 : runK 2052 (.i .i64 5) = 0 := by decide +kernel
theorem pl1_6 : runK 2052 (.i .i64 6) = 0 := by decide +kernel
theorem pl1_7 : runK 2052 (.i .i64 7) = 0 := by decide +kernel
theorem pl1_8 : runK 2052 (.i .i64 8) = 0 := by decide +kernel
theorem pl1_9 : runK 2052 (.i .i64 9) = 0 := by decide +kernel
theorem ok1 : OkP 1 2052 2 9 := ⟨pp1, pb1, pa1, (fun L h1 h2 => by
  have h : L = 2 ∨ L = 3 ∨ L = 4 ∨ L = 5 ∨ L = 6 ∨ L = 7 ∨ L = 8 ∨ L = 9 := by omega
  rcases h with rfl | rfl | rfl | rfl | rfl | rfl | rfl | rfl
  · exact pl1_2
  · exact pl1_3
  · exact pl1_4
  · exact pl1_5
  · exact pl1_6
  · exact pl1_7
  · exact pl1_8
  · exact pl1_9)⟩
theorem pp20 : runP 20 2128 = 0 := by decide +kernel
theorem pb20 : runK 2128 (.si .i64 (.mm false (.v 1) (.lit (-1)))) = 0 := by decide +kernel
theorem pa20 : runK 2128 (.si .i64 (.mm true (.v 1) (.lit 1))) = 0 := by decide +kernel
theorem pl20_0 : runK 2128 (.i .i64 0) = 0 := by decide +kernel
theorem ok20 : OkP 20 2128 0 0 := ⟨pp20, pb20, pa20, (fun L h1 h2 => by
  have h : L = 0 := by omega
  subst h
  exact pl20_0)⟩
end Go.Ev.X
end
