/-
  The runs, part 9.
-/
import Derived.Test.YtedbnfdmeigabaaGreatRD
set_option linter.unusedSimpArgs false
set_option linter.unusedVariables false
set_option maxRecDepth 100000
noncomputable section
namespace Go.Ev.X
open Go Go.Ev
theorem pp11 : runP 11 2092 = 0 := by decide +kernel
theorem pb11 : runK 2092 (.si .i64 (.mm false (.v 1) (.lit 17))) = 0 := by decide +kernel
theorem pa11 : runK 2092 (.si .i64 (.mm true (.v 1) (.lit 20))) = 0 := by decide +kernel
theorem pl11_18 : runK 2092 (.i .i64 18) = 0 := by decide +kernel
theorem pl11_19 : runK 2092 (.i .i64 19) = 0 := by decide +kernel
theorem ok11 : OkP 11 2092 18 19 := ⟨pp11, pb11, pa11, (fun L h1 h2 => by
  have h : L = 18 ∨ L = 19 := by omega
  rcases h with rfl | rfl
  · exact pl11_18
  · exact pl11_19)⟩
theorem pp5 : runP 5 2068 = 0 := by decide +kernel
theorem pb5 : runK 2068 (.si .i64 (.mm false (.v 1) (.lit (-1)))) = 0 := by decide +kernel
theorem pa5 : runK 2068 (.si .i64 (.mm true (.v 1) (.lit 1))) = 0 := by decide +kernel
theorem pl5_0 : runK 2068 (.i .i64 0) = 0 := by decide +kernel
theorem ok5 : OkP 5 2068 0 0 := ⟨pp5, pb5, pa5, (fun L h1 h2 => by
  have h : L = 0 := by omega
  subst h
  exact pl5_0)⟩
theorem pp17 : runP 17 2116 = 0 := by decide +kernel
theorem pb17 : runK 2116 (.si .i64 (.mm false (.v 1) (.lit 21))) = 0 := by decide +kernel
theorem pa17 : runK 2116 (.si .i64 (.mm true (.v 1) (.lit 23))) = 0 := by decide +kernel
theorem pl17_22 : runK 2116 (.i .i64 22) = 0 := by decide +kernel
theorem ok17 : OkP 17 2116 22 22 := ⟨pp17, pb17, pa17, (fun L h1 h2 => by
  have h : L = 22 := by omega
  subst h
  exact pl17_22)⟩
theorem pp29 : runP 29 2164 = 0 := by decide +kernel
theorem pb29 : runK 2164 (.si .i64 (.mm false (.v 1) (.lit (-1)))) = 0 := by decide +kernel
theorem pa29 : runK 2164 (.si .i64 (.mm true (.v 1) (.lit 1))) = 0 := by decide +kernel
theorem pl29_0 : runK 2164 (.i .i64 0) = 0 := by decide +kernel
theorem ok29 : OkP 29 2164 0 0 := ⟨pp29, pb29, pa29, (fun L h1 h2 => by
  have h : L = 0 := by omega
  subst h
  exact pl29_0)⟩
end Go.Ev.X
end
