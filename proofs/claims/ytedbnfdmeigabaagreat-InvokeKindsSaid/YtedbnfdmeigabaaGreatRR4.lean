/-
  The runs, part 4.
-/
import Derived.Test.YtedbnfdmeigabaaGreatRD
set_option linter.unusedSimpArgs false
set_option linter.unusedVariables false
set_option maxRecDepth 100000
noncomputable section
namespace Go.Ev.X
open Go Go.Ev
theorem pp34 : runP 34 40 = 0 := by decide +kernel
theorem pb34 : runK 40 (.si .i64 (.mm false (.v 1) (.lit 9))) = 0 := by decide +kernel
theorem pa34 : runK 40 (.si .i64 (.mm true (.v 1) (.lit 18))) = 0 := by decide +kernel
theorem pl34_10 : runK 40 (.i .i64 10) = 0 := by decide +kernel
theorem pl34_11 : runK 40 (.i .i64 11) = 0 := by decide +kernel
theorem pl34_12 : runK 40 (.i .i64 12) = 0 := by decide +kernel
theorem pl34_13 : runK 40 (.i .i64 13) = 0 := by decide +kernel
theorem pl34_14 : runK 40 (.i .i64 14) = 0 := by decide +kernel
theorem pl34_15 : runK 40 (.i .i64 15) = 0 := by decide +kernel
theorem pl34_16 : runK 40 (.i .i64 16) = 0 := by decide +kernel
theorem pl34_17 : runK 40 (.i .i64 17) = 0 := by decide +kernel
theorem ok34 : OkP 34 40 10 17 := ⟨pp34, pb34, pa34, (fun L h1 h2 => by
  have h : L = 10 ∨ L = 11 ∨ L = 12 ∨ L = 13 ∨ L = 14 ∨ L = 15 ∨ L = 16 ∨ L = 17 := by omega
  rcases h with rfl | rfl | rfl | rfl | rfl | rfl | rfl | rfl
  · exact pl34_10
  · exact pl34_11
  · exact pl34_12
  · exact pl34_13
  · exact pl34_14
  · exact pl34_15
  · exact pl34_16
  · exact pl34_17)⟩
theorem pp24 : runP 24 2144 = 0 := by decide +kernel
theorem pb24 : runK 2144 (.si .i64 (.mm false (.v 1) (.lit (-1)))) = 0 := by decide +kernel
theorem pa24 : runK 2144 (.si .i64 (.mm true (.v 1) (.lit 1))) = 0 := by decide +kernel
theorem pl24_0 : runK 2144 (.i .i64 0) = 0 := by decide +kernel
theorem ok24 : OkP 24 2144 0 0 := ⟨pp24, pb24, pa24, (fun L h1 h2 => by
  have h : L = 0 := by omega
  subst h
  exact pl24_0)⟩
end Go.Ev.X
end
