/-
  The runs, part 5.
-/
import Derived.Test.YtedbnfdmeigabaaGreatRD
set_option linter.unusedSimpArgs false
set_option linter.unusedVariables false
set_option maxRecDepth 100000
noncomputable section
namespace Go.Ev.X
open Go Go.Ev
theorem pp35 : runP 35 44 = 0 := by decide +kernel
theorem pb35 : runK 44 (.si .i64 (.mm false (.v 1) (.lit 9))) = 0 := by decide +kernel
theorem pa35 : runK 44 (.si .i64 (.mm true (.v 1) (.lit 18))) = 0 := by decide +kernel
theorem pl35_10 : runK 44 (.i .i64 10) = 0 := by decide +kernel
theorem pl35_11 : runK 44 (.i .i64 11) = 0 := by decide +kernel
theorem pl35_12 : runK 44 (.i .i64 12) = 0 := by decide +kernel
theorem pl35_13 : runK 44 (.i .i64 13) = 0 := by decide +kernel
theorem pl35_14 : runK 44 (.i .i64 14) = 0 := by decide +kernel
theorem pl35_15 : runK 44 (.i .i64 15) = 0 := by decide +kernel
theorem pl35_16 : runK 44 (.i .i64 16) = 0 := by decide +kernel
theorem pl35_17 : runK 44 (.i .i64 17) = 0 := by decide +kernel
theorem ok35 : OkP 35 44 10 17 := ⟨pp35, pb35, pa35, (fun L h1 h2 => by
  have h : L = 10 ∨ L = 11 ∨ L = 12 ∨ L = 13 ∨ L = 14 ∨ L = 15 ∨ L = 16 ∨ L = 17 := by omega
  rcases h with rfl | rfl | rfl | rfl | rfl | rfl | rfl | rfl
  · exact pl35_10
  · exact pl35_11
  · exact pl35_12
  · exact pl35_13
  · exact pl35_14
  · exact pl35_15
  · exact pl35_16
  · exact pl35_17)⟩
theorem pp25 : runP 25 2148 = 0 := by decide +kernel
theorem pb25 : runK 2148 (.si .i64 (.mm false (.v 1) (.lit (-1)))) = 0 := by decide +kernel
theorem pa25 : runK 2148 (.si .i64 (.mm true (.v 1) (.lit 1))) = 0 := by decide +kernel
theorem pl25_0 : runK 2148 (.i .i64 0) = 0 := by decide +kernel
theorem ok25 : OkP 25 2148 0 0 := ⟨pp25, pb25, pa25, (fun L h1 h2 => by
  have h : L = 0 := by omega
  subst h
  exact pl25_0)⟩
end Go.Ev.X
end
