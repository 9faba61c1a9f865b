/-
  The runs, part 6.
-/
import Derived.Test.YtedbnfdmeigabaaGreatRD
set_option linter.unusedSimpArgs false
set_option linter.unusedVariables false
set_option maxRecDepth 100000
noncomputable section
namespace Go.Ev.X
open Go Go.Ev
theorem pp8 : runP 8 2080 = 0 := by decide +kernel
theorem pb8 : runK 2080 (.si .i64 (.mm false (.v 1) (.lit 17))) = 0 := by decide +kernel
theorem pa8 : runK 2080 (.si .i64 (.mm true (.v 1) (.lit 20))) = 0 := by decide +kernel
theorem pl8_18 : runK 2080 (.i .i64 18) = 0 := by decide +kernel
theorem pl8_19 : runK 2080 (.i .i64 19) = 0 := by decide +kernel
theorem ok8 : OkP 8 2080 18 19 := ⟨pp8, pb8, pa8, (fun L h1 h2 => by
  have h : L = 18 ∨ L = 19 := by omega
  rcases h with rfl | rfl
  · exact pl8_18
  · exact pl8_19)⟩
theorem pp0 : runP 0 2048 = 0 := by decide +kernel
theorem pb0 : runK 2048 (.si .i64 (.mm false (.v 1) (.lit (-1)))) = 0 := by decide +kernel
theorem pa0 : runK 2048 (.si .i64 (.mm true (.v 1) (.lit 1))) = 0 := by decide +kernel
theorem pl0_0 : runK 2048 (.i .i64 0) = 0 := by decide +kernel
theorem ok0 : OkP 0 2048 0 0 := ⟨pp0, pb0, pa0, (fun L h1 h2 => by
  have h : L = 0 := by omega
  subst h
  exact pl0_0)⟩
theorem pp14 : runP 14 2104 = 0 := by decide +kernel
theorem pb14 : runK 2104 (.si .i64 (.mm false (.v 1) (.lit 19))) = 0 := by decide +kernel
theorem pa14 : runK 2104 (.si .i64 (.mm true (.v 1) (.lit 21))) = 0 := by decide +kernel
theorem pl14_20 : runK 2104 (.i .i64 20) = 0 := by decide +kernel
theorem ok14 : OkP 14 2104 20 20 := ⟨pp14, pb14, pa14, (fun L h1 h2 => by
  have h : L = 20 := by omega
  subst h
  exact pl14_20)⟩
theorem pp26 : runP 26 2152 = 0 := by decide +kernel
theorem pb26 : runK 2152 (.si .i64 (.mm false (.v 1) (.lit (-1)))) = 0 := by decide +kernel
theorem pa26 : runK 2152 (.si .i64 (.mm true (.v 1) (.lit 1))) = 0 := by decide +kernel
theorem pl26_0 : runK 2152 (.i .i64 0) = 0 := by decide +kernel
theorem ok26 : OkP 26 2152 0 0 := ⟨pp26, pb26, pa26, (fun L h1 h2 => by
  have h : L = 0 := by omega
  subst h
  exact pl26_0)⟩
end Go.Ev.X
end
