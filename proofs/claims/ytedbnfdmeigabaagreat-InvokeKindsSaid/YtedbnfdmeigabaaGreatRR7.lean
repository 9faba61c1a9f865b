/-
  The runs, part 7.
-/
import Derived.Test.YtedbnfdmeigabaaGreatRD
set_option linter.unusedSimpArgs false
set_option linter.unusedVariables false
set_option maxRecDepth 100000
noncomputable section
namespace Go.Ev.X
open Go Go.Ev
theorem pp9 : runP 9 2084 = 0 := by decide +kernel
theorem pb9 : runK 2084 (.si .i64 (.mm false (.v 1) (.lit 17))) = 0 := by decide +kernel
theorem pa9 : runK 2084 (.si .i64 (.mm true (.v 1) (.lit 20))) = 0 := by decide +kernel
theorem pl9_18 : runK 2084 (.i .i64 18) = 0 := by decide +kernel
theorem pl9_19 : runK 2084 (.i .i64 19) = 0 := by decide +kernel
theorem ok9 : OkP 9 2084 18 19 := ⟨pp9, pb9, pa9, (fun L h1 h2 => by
  have h : L = 18 ∨ L = 19 := by omega
  rcases h with rfl | rfl
  · exact pl9_18
  · exact pl9_19)⟩
theorem pp3 : runP 3 2060 = 0 := by decide +kernel
theorem pb3 : runK 2060 (.si .i64 (.mm false (.v 1) (.lit (-1)))) = 0 := by decide +kernel
theorem pa3 : runK 2060 (.si .i64 (.mm true (.v 1) (.lit 1))) = 0 := by decide +kernel
theorem pl3_0 : runK 2060 (.i .i64 0) = 0 := by decide +kernel
theorem ok3 : OkP 3 2060 0 0 := ⟨pp3, pb3, pa3, (fun L h1 h2 => by
  have h : L = 0 := by omega
  subst h
  exact pl3_0)⟩
theorem pp15 : runP 15 2108 = 0 := by decide +kernel
theorem pb15 : runK 2108 (.si .i64 (.mm false (.v 1) (.lit 0))) = 0 := by decide +kernel
theorem pa15 : runK 2108 (.si .i64 (.mm true (.v 1) (.lit 2))) = 0 := by decide +kernel
theorem pl15_1 : runK 2108 (.i .i64 1) = 0 := by decide +kernel
theorem ok15 : OkP 15 2108 1 1 := ⟨pp15, pb15, pa15, (fun L h1 h2 => by
  have h : L = 1 := by omega
  subst h
  exact pl15_1)⟩
theorem pp27 : runP 27 2156 = 0 := by decide +kernel
theorem pb27 : runK 2156 (.si .i64 (.mm false (.v 1) (.lit (-1)))) = 0 := by decide +kernel
theorem pa27 : runK 2156 (.si .i64 (.mm true (.v 1) (.lit 1))) = 0 := by decide +kernel
theorem pl27_0 : runK 2156 (.i .i64 0) = 0 := by decide +kernel
theorem ok27 : OkP 27 2156 0 0 := ⟨pp27, pb27, pa27, (fun L h1 h2 => by
  have h : L = 0 := by omega
  subst h
  exact pl27_0)⟩
end Go.Ev.X
end
