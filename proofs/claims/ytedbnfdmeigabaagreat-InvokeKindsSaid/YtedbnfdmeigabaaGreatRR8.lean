/-
  The runs, part 8.
-/
import Derived.Test.YtedbnfdmeigabaaGreatRD
set_option linter.unusedSimpArgs false
set_option linter.unusedVariables false
set_option maxRecDepth 100000
noncomputable section
namespace Go.Ev.X
open Go Go.Ev
theorem pp10 : runP 10 2088 = 0 := by decide +kernel
theorem pb10 : runK 2088 (.si .i64 (.mm false (.v 1) (.lit 17))) = 0 := by decide +kernel
theorem pa10 : runK 2088 (.si .i64 (.mm true (.v 1) (.lit 20))) = 0 := by decide +kernel
theorem pl10_18 : runK 2088 (.i .i64 18) = 0 := by decide +kernel
theorem pl10_19 : runK 2088 (.i .i64 19) = 0 := by decide +kernel
theorem ok10 : OkP 10 2088 18 19 := ⟨pp10, pb10, pa10, (fun L h1 h2 => by
  have h : L = 18 ∨ L = 19 := by omega
  rcases h with rfl | rfl
  · exact pl10_18
  · exact pl10_19)⟩
theorem pp4 : runP 4 2064 = 0 := by decide +kernel
theorem pb4 : runK 2064 (.si .i64 (.mm false (.v 1) (.lit (-1)))) = 0 := by decide +kernel
theorem pa4 : runK 2064 (.si .i64 (.mm true (.v 1) (.lit 1))) = 0 := by decide +kernel
theorem pl4_0 : runK 2064 (.i .i64 0) = 0 := by decide +kernel
theorem ok4 : OkP 4 2064 0 0 := ⟨pp4, pb4, pa4, (fun L h1 h2 => by
  have h : L = 0 := by omega
  subst h
  exact pl4_0)⟩
theorem pp16 : runP 16 2112 = 0 := by decide +kernel
theorem pb16 : runK 2112 (.si .i64 (.mm false (.v 1) (.lit 0))) = 0 := by decide +kernel
theorem pa16 : runK 2112 (.si .i64 (.mm true (.v 1) (.lit 2))) = 0 := by decide +kernel
theorem pl16_1 : runK 2112 (.i .i64 1) = 0 := by decide +kernel
theorem ok16 : OkP 16 2112 1 1 := ⟨pp16, pb16, pa16, (fun L h1 h2 => by
  have h : L = 1 := by omega
  subst h
  exact pl16_1)⟩
theorem pp28 : runP 28 2160 = 0 := by decide +kernel
theorem pb28 : runK 2160 (.si .i64 (.mm false (.v 1) (.lit (-1)))) = 0 := by decide +kernel
theorem pa28 : runK 2160 (.si .i64 (.mm true (.v 1) (.lit 1))) = 0 := by decide +kernel
theorem pl28_0 : runK 2160 (.i .i64 0) = 0 := by decide +kernel
theorem ok28 : OkP 28 2160 0 0 := ⟨pp28, pb28, pa28, (fun L h1 h2 => by
  have h : L = 0 := by omega
  subst h
  exact pl28_0)⟩
end Go.Ev.X
end
