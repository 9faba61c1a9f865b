/-
  SchedUrgent: what is refused.
-/
import Derived.Test.YtkecfebodpkamaaGreatSU0
import Derived.Test.YtkecfebodpkamaaGreatSU1
import Derived.Test.YtkecfebodpkamaaGreatSU2
import Derived.Test.YtkecfebodpkamaaGreatSU3
import Derived.Test.YtkecfebodpkamaaGreatSU4
set_option linter.unusedSimpArgs false
set_option linter.unusedVariables false
set_option maxRecDepth 100000
noncomputable section
namespace Go.Ev.X
open Go Go.Ev Go.Proofs
def inR : CallT := memoS ab (callAx call1)
theorem inR_ok {E : Env} : CallOk E PP inR := msS_ok rfl abt FaOk.nil (call1_ok (lenAll E)) (callAx_ok (call1_ok (lenAll E)))
def fR0 : List (SB × Bool) := [((.cmp .lss (.v 0) (.lit 0)), true)]
theorem runR0 : callS cx1 0 inR 3 [.si .i64 (.v 0), .si .i64 (.v 1), .si .i64 (.v 2)] ⟨.h, .h, .e⟩ ⟨fR0, []⟩ (endV (.b true)) = 0 := by decide +kernel
def fR1 : List (SB × Bool) := [((.cmp .lss (.v 0) (.lit 0)), false), ((.cmp .leq (.v 1) (.v 0)), true)]
theorem runR1 : callS cx1 0 inR 3 [.si .i64 (.v 0), .si .i64 (.v 1), .si .i64 (.v 2)] ⟨.h, .h, .e⟩ ⟨fR1, []⟩ (endV (.b true)) = 0 := by decide +kernel
def fR2 : List (SB × Bool) := [((.cmp .lss (.v 0) (.lit 0)), false), ((.cmp .leq (.v 1) (.v 0)), false), ((.cmp .gtr (.v 1) (.lit 255)), true)]
theorem runR2 : callS cx1 0 inR 3 [.si .i64 (.v 0), .si .i64 (.v 1), .si .i64 (.v 2)] ⟨.h, .h, .e⟩ ⟨fR2, []⟩ (endV (.b true)) = 0 := by decide +kernel
def fR3 : List (SB × Bool) := [((.cmp .lss (.v 0) (.lit 0)), false), ((.cmp .leq (.v 1) (.v 0)), false), ((.cmp .gtr (.v 1) (.lit 255)), false), ((.cmp .lss (.v 2) (.lit 0)), true)]
theorem runR3 : callS cx1 0 inR 3 [.si .i64 (.v 0), .si .i64 (.v 1), .si .i64 (.v 2)] ⟨.h, .h, .e⟩ ⟨fR3, []⟩ (endV (.b true)) = 0 := by decide +kernel
def fR4 : List (SB × Bool) := [((.cmp .lss (.v 0) (.lit 0)), false), ((.cmp .leq (.v 1) (.v 0)), false), ((.cmp .gtr (.v 1) (.lit 255)), false), ((.cmp .lss (.v 2) (.lit 0)), false), ((.cmp .gtr (.v 2) (.lit 4)), true)]
theorem runR4 : callS cx1 0 inR 3 [.si .i64 (.v 0), .si .i64 (.v 1), .si .i64 (.v 2)] ⟨.h, .h, .e⟩ ⟨fR4, []⟩ (endV (.b true)) = 0 := by decide +kernel
theorem refR {E : Env} {fs : List (SB × Bool)} (hr : callS cx1 0 inR 3 [.si .i64 (.v 0), .si .i64 (.v 1), .si .i64 (.v 2)] ⟨.h, .h, .e⟩ ⟨fs, []⟩ (endV (.b true)) = 0) (hf : FsOk E fs) (W : World) :
    Calls PP 3 #[.int .i64 (E.i 0), .int .i64 (E.i 1), .int .i64 (E.i 2)] W fun e w' => e = .returned (.bool true) ∧ RowKit.Below W.heap.size W w' :=
  (val_of_run (cx1_ok (lenAll E)) inR_ok (fa_list (r := []) hf trivial) hr ⟨trivial, trivial, trivial, trivial⟩ (fun _ => ⟨0, 0⟩) W).mono fun e w' h => by
    obtain ⟨⟨ρ', h1⟩, h2⟩ := h
    exact ⟨h1, h2⟩
theorem urgent_any (W : World) (a0 a1 a2 : Int) : Calls PP 3 #[.int .i64 a0, .int .i64 a1, .int .i64 a2] W fun e w' => e = .returned (.bool true) ∧ RowKit.Below W.heap.size W w' := by
  obtain ⟨E, hE⟩ : ∃ E : Env, E = ⟨fun i => if i = 0 then a0 else if i = 1 then a1 else a2, fun _ => false, fun _ => rowF 0 f0⟩ := ⟨_, rfl⟩
  have h0 : E.i 0 = a0 := by rw [hE]; rfl
  have h1 : E.i 1 = a1 := by rw [hE]; rfl
  have h2 : E.i 2 = a2 := by rw [hE]; rfl
  have no : ∀ {fs}, callS cx1 0 inR 3 [.si .i64 (.v 0), .si .i64 (.v 1), .si .i64 (.v 2)] ⟨.h, .h, .e⟩ ⟨fs, []⟩ (endV (.b true)) = 0 → FsOk E fs → Calls PP 3 #[.int .i64 a0, .int .i64 a1, .int .i64 a2] W fun e w' => e = .returned (.bool true) ∧ RowKit.Below W.heap.size W w' := by
    intro fs hr hf
    have := refR hr hf W
    rw [h0, h1, h2] at this
    exact this
  by_cases c1 : a0 < 0
  · exact no runR0 ⟨f_lt (show E.i 0 < 0 by omega), trivial⟩
  by_cases c2 : a1 ≤ a0
  · exact no runR1 ⟨f_ltn (show 0 ≤ E.i 0 by omega), f_le (show E.i 1 ≤ E.i 0 by omega), trivial⟩
  by_cases c3 : 255 < a1
  · exact no runR2 ⟨f_ltn (show 0 ≤ E.i 0 by omega), f_len (show E.i 0 < E.i 1 by omega), f_gt (show 255 < E.i 1 by omega), trivial⟩
  by_cases c4 : a2 < 0
  · exact no runR3 ⟨f_ltn (show 0 ≤ E.i 0 by omega), f_len (show E.i 0 < E.i 1 by omega), f_gtn (show E.i 1 ≤ 255 by omega), f_lt (show E.i 2 < 0 by omega), trivial⟩
  by_cases c5 : 4 < a2
  · exact no runR4 ⟨f_ltn (show 0 ≤ E.i 0 by omega), f_len (show E.i 0 < E.i 1 by omega), f_gtn (show E.i 1 ≤ 255 by omega), f_ltn (show 0 ≤ E.i 2 by omega), f_gt (show 4 < E.i 2 by omega), trivial⟩
  have : a2 = 0 ∨ a2 = 1 ∨ a2 = 2 ∨ a2 = 3 ∨ a2 = 4 := by omega
  rcases this with rfl | rfl | rfl | rfl | rfl
  · exact urgU0 (by omega) (by omega) (by omega) W
  · exact urgU1 (by omega) (by omega) (by omega) W
  · exact urgU2 (by omega) (by omega) (by omega) W
  · exact urgU3 (by omega) (by omega) (by omega) W
  · exact urgU4 (by omega) (by omega) (by omega) W
end Go.Ev.X
end
