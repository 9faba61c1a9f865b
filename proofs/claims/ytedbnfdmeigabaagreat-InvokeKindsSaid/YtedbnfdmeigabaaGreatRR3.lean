/-
  The runs, part 3.
-/
import Derived.Test.YtedbnfdmeigabaaGreatRD
set_option linter.unusedSimpArgs false
set_option linter.unusedVariables false
set_option maxRecDepth 100000
noncomputable section
namespace Go.Ev.X
open Go Go.Ev
theorem pp33 : runP 33 36 = 0 := by decide +kernel
theorem pb33 : runK 36 (.si .i64 (.mm false (.v 1) (.lit 9))) = 0 := by decide +kernel
theorem pa33 : runK 36 (.si .i64 (.mm true (.v 1) (.lit 18))) = 0 := by decide +kernel
theorem pl33_10 : runK 36 (.i .i64 10) = 0 := by decide +kernel
theorem pl33_11 : runK 36 (.i .i64 11) = 0 := by decide +kernel
theorem pl33_12 : runK 36 (.i .i64 12) = 0 := by decide +kernel
theorem pl33_13 : runK 36 (.i .i64 13) = 0 := by decide +kernel
theorem pl33_14 : runK 36 (.i .i64 14) = 0 := by decide +kernel
theorem pl33_15 : runK 36 (.i .i64 15) = 0 := by decide +kernel
theorem pl33_16 : runK 36 (.i .i64 16) = 0 := by decide +kernel
theorem pl33_17 : runK 36 (.i .i64 17) = 0 := by decide +kernel
theorem ok33 : OkP 33 36 10 17 := ⟨pp33, pb33, pa33, (fun L h1 h2 => by
  have h : L = 10 ∨ L = 11 ∨ L = 12 ∨ L = 13 ∨ L = 14 ∨ L = 15 ∨ L = 16 ∨ L = 17 := by omega
  rcases h with rfl | rfl | rfl | rfl | rfl | rfl | rfl | rfl
  · exact pl33_10
  · exact pl33_11
  · exact pl33_12
  · exact pl33_13
  · exact pl33_14
  · exact pl33_15
  · exact pl33_16
  · exact pl33_17)⟩
theorem pp23 : runP 23 2140 = 0 := by decide +kernel
theorem pb23 : runK 2140 (.si .i64 (.mm false (.v 1) (.lit (-1)))) = 0 := by decide +kernel
theorem pa23 : runK 2140 (.si .i64 (.mm true (.v 1) (.lit 1))) = 0 := by decide +kernel
theorem pl23_0 : runK 2140 (.i .i64 0) = 0 := by decide +kernel
theorem ok23 : OkP 23 2140 0 0 := ⟨pp23, pb23, pa23, (fun L h1 h2 => by
  have h : L = 0 := by omega
  subst h
  exact pl23_0)⟩
end Go.Ev.X
end
