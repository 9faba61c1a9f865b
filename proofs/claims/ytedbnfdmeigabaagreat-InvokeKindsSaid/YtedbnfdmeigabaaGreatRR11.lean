/-
  The runs, part 11.
-/
import Derived.Test.YtedbnfdmeigabaaGreatRD
set_option linter.unusedSimpArgs false
set_option linter.unusedVariables false
set_option maxRecDepth 100000
noncomputable section
namespace Go.Ev.X
open Go Go.Ev
theorem pp13 : runP 13 2100 = 0 := by decide +kernel
theorem pb13 : runK 2100 (.si .i64 (.mm false (.v 1) (.lit 17))) = 0 := by decide +kernel
theorem pa13 : runK 2100 (.si .i64 (.mm true (.v 1) (.lit 20))) = 0 := by decide +kernel
theorem pl13_18 : runK 2100 (.i .i64 18) = 0 := by decide +kernel
theorem pl13_19 : runK 2100 (.i .i64 19) = 0 := by decide +kernel
theorem ok13 : OkP 13 2100 18 19 := ⟨pp13, pb13, pa13, (fun L h1 h2 => by
  have h : L = 18 ∨ L = 19 := by omega
  rcases h with rfl | rfl
  · exact pl13_18
  · exact pl13_19)⟩
theorem pp7 : runP 7 2076 = 0 := by decide +kernel
theorem pb7 : runK 2076 (.si .i64 (.mm false (.v 1) (.lit (-1)))) = 0 := by decide +kernel
theorem pa7 : runK 2076 (.si .i64 (.mm true (.v 1) (.lit 1))) = 0 := by decide +kernel
theorem pl7_0 : runK 2076 (.i .i64 0) = 0 := by decide +kernel
theorem ok7 : OkP 7 2076 0 0 := ⟨pp7, pb7, pa7, (fun L h1 h2 => by
  have h : L = 0 := by omega
  subst h
  exact pl7_0)⟩
theorem pp19 : runP 19 2124 = 0 := by decide +kernel
theorem pb19 : runK 2124 (.si .i64 (.mm false (.v 1) (.lit (-1)))) = 0 := by decide +kernel
theorem pa19 : runK 2124 (.si .i64 (.mm true (.v 1) (.lit 1))) = 0 := by decide +kernel
theorem pl19_0 : runK 2124 (.i .i64 0) = 0 := by decide +kernel
theorem ok19 : OkP 19 2124 0 0 := ⟨pp19, pb19, pa19, (fun L h1 h2 => by
  have h : L = 0 := by omega
  subst h
  exact pl19_0)⟩
theorem pp31 : runP 31 2172 = 0 := by decide +kernel
theorem pb31 : runK 2172 (.si .i64 (.mm false (.v 1) (.lit (-1)))) = 0 := by decide +kernel
theorem pa31 : runK 2172 (.si .i64 (.mm true (.v 1) (.lit 1))) = 0 := by decide +kernel
theorem pl31_0 : runK 2172 (.i .i64 0) = 0 := by decide +kernel
theorem ok31 : OkP 31 2172 0 0 := ⟨pp31, pb31, pa31, (fun L h1 h2 => by
  have h : L = 0 := by omega
  subst h
  exact pl31_0)⟩
end Go.Ev.X
end
