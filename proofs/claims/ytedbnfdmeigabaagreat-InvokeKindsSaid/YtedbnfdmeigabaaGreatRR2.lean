/-
  The runs, part 2.
-/
import Derived.Test.YtedbnfdmeigabaaGreatRD
set_option linter.unusedSimpArgs false
set_option linter.unusedVariables false
set_option maxRecDepth 100000
noncomputable section
namespace Go.Ev.X
open Go Go.Ev
theorem pp32 : runP 32 32 = 0 := by decide +kernel
theorem pb32 : runK 32 (.si .i64 (.mm false (.v 1) (.lit 9))) = 0 := by decide +kernel
theorem pa32 : runK 32 (.si .i64 (.mm true (.v 1) (.lit 18))) = 0 := by decide +kernel
theorem pl32_10 : runK 32 (.i .i64 10) = 0 := by decide +kernel
theorem pl32_11 : runK 32 (.i .i64 11) = 0 := by decide +kernel
theorem pl32_12 : runK 32 (.i .i64 12) = 0 := by decide +kernel
theorem pl32_13 : runK 32 (.i .i64 13) = 0 := by decide +kernel
theorem pl32_14 : runK 32 (.i .i64 14) = 0 := by decide +kernel
theorem pl32_15 : runK 32 (.i .i64 15) = 0 := by decide +kernel
theorem pl32_16 : runK 32 (.i .i64 16) = 0 := by decide +kernel
theorem pl32_17 : runK 32 (.i .i64 17) = 0 := by decide +kernel
theorem ok32 : OkP 32 32 10 17 := ⟨pp32, pb32, pa32, (fun L h1 h2 => by
  have h : L = 10 ∨ L = 11 ∨ L = 12 ∨ L = 13 ∨ L = 14 ∨ L = 15 ∨ L = 16 ∨ L = 17 := by omega
  rcases h with rfl | rfl | rfl | rfl | rfl | rfl | rfl | rfl
  · exact pl32_10
  · exact pl32_11
  · exact pl32_12
  · exact pl32_13
  · exact pl32_14
  · exact pl32_15
  · exact pl32_16
  · exact pl32_17)⟩
theorem pp22 : runP 22 2136 = 0 := by decide +kernel
theorem pb22 : runK 2136 (.si .i64 (.mm false (.v 1) (.lit (-1)))) = 0 := by decide +kernel
theorem pa22 : runK 2136 (.si .i64 (.mm true (.v 1) (.lit 1))) = 0 := by decide +kernel
theorem pl22_0 : runK 2136 (.i .i64 0) = 0 := by decide +kernel
theorem ok22 : OkP 22 2136 0 0 := ⟨pp22, pb22, pa22, (fun L h1 h2 => by
  have h : L = 0 := by omega
  subst h
  exact pl22_0)⟩
end Go.Ev.X
end
