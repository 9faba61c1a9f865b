/-
  The runs, part 1.
-/
import Derived.Test.YtedbnfdmeigabaaGreatRD
set_option linter.unusedSimpArgs false
set_option linter.unusedVariables false
set_option maxRecDepth 100000
noncomputable section
namespace Go.Ev.X
open Go Go.Ev
theorem pp2 : runP 2 2056 = 0 := by decide +kernel
theorem pb2 : runK 2056 (.si .i64 (.mm false (.v 1) (.lit 1))) = 0 := by decide +kernel
theorem pa2 : runK 2056 (.si .i64 (.mm true (.v 1) (.lit 10))) = 0 := by decide +kernel
theorem pl2_2 : runK 2056 (.i .i64 2) = 0 := by decide +kernel
theorem pl2_3 : runK 2056 (.i .i64 3) = 0 := by decide +kernel
theorem pl2_4 : runK 2056 (.i .i64 4) = 0 := by decide +kernel
theorem pl2_5 : runK 2056 (.i .i64 5) = 0 := by decide +kernel
theorem pl2_6 : runK 2056 (.i .i64 6) = 0 := by decide +kernel
theorem pl2_7 : runK 2056 (.i .i64 7) = 0 := by decide +kernel
theorem pl2_8 : runK 2056 (.i .i64 8) = 0 := by decide +kernel
theorem pl2_9 : runK 2056 (.i .i64 9) = 0 := by decide +kernel
theorem ok2 : OkP 2 2056 2 9 := ⟨pp2, pb2, pa2, (fun L h1 h2 => by
  have h : L = 2 ∨ L = 3 ∨ L = 4 ∨ L = 5 ∨ L = 6 ∨ L = 7 ∨ L = 8 ∨ L = 9 := by omega
  rcases h with rfl | rfl | rfl | rfl | rfl | rfl | rfl | rfl
  · exact pl2_2
  · exact pl2_3
  · exact pl2_4
  · exact pl2_5
  · exact pl2_6
  · exact pl2_7
  · exact pl2_8
  · exact pl2_9)⟩
theorem pp21 : runP 21 2132 = 0 := by decide +kernel
theorem pb21 : runK 2132 (.si .i64 (.mm false (.v 1) (.lit (-1)))) = 0 := by decide +kernel
theorem pa21 : runK 2132 (.si .i64 (.mm true (.v 1) (.lit 1))) = 0 := by decide +kernel
theorem pl21_0 : runK 2132 (.i .i64 0) = 0 := by decide +kernel
theorem ok21 : OkP 21 2132 0 0 := ⟨pp21, pb21, pa21, (fun L h1 h2 => by
  have h : L = 0 := by omega
  subst h
  exact pl21_0)⟩
end Go.Ev.X
end
