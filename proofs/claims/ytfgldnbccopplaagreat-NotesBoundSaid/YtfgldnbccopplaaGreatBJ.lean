/-
  NotesBound: the truths of its cases hold.
-/
import Derived.Test.YtfgldnbccopplaaGreatMH
import Derived.Test.YtfgldnbccopplaaGreatE4
set_option linter.unusedSimpArgs false
set_option linter.unusedVariables false
set_option maxRecDepth 100000
noncomputable section
namespace Go.Ev.X
open Go Go.Ev
variable {E : Env}
theorem rrB_ok (h : -9223372036854775808 ≤ E.i 0 ∧ E.i 0 ≤ 9223372036854775807) (h1 : -9223372036854775808 ≤ E.i 1 ∧ E.i 1 ≤ 9223372036854775807) : ∀ i a b, (i, a, b) ∈ rrB → a ≤ E.i i ∧ E.i i ≤ b := by
  intro i a b hm
  rcases List.mem_cons.1 hm with e | hm
  · cases e; exact h
  rcases List.mem_cons.1 hm with e | hm
  · cases e; exact h1
  · cases hm
theorem den_rem (e : SE) (h0 : 0 ≤ e.den E) : SE.den E (.op .rem .i64 e (.lit 2)) = e.den E % 2 := by
  show (e.den E).tmod 2 = _
  rw [Int.tmod_eq_emod_of_nonneg h0]
theorem den_ng (h0 : -9223372036854775808 ≤ E.i 0) (h1 : E.i 0 < 0) : SE.den E (.op .sub .i64 (.lit 0) (.op .add .i64 (.v 0) (.lit 1))) = -(E.i 0 + 1) := by
  show wrapF .i64 (0 - wrapF .i64 (E.i 0 + 1)) = _
  rw [wrapF_eq, wrapF_eq, IntKind.wrap_i64, IntKind.wrap_i64]
  omega
theorem eq_true {e : SE} {k : Int} (h : e.den E = k) : SB.den E (.cmp .eql e (.lit k)) = true := by
  show (cmpI .eql (e.den E) k).getD false = true
  rw [h]
  show iEq k k = true
  rw [iEq_eq]; simp
theorem den_b1 : SB.den E geB1 = decide (E.i 1 < 0) := by
  show iLt (E.i 1) 0 = _
  rw [iLt_eq]
theorem faB0 {k : Nat} {c : SB} {b1 : Bool} (h : 0 ≤ E.i 0 ∧ E.i 0 ≤ 9223372036854775807) (hk : E.i 0 % 2 = k) (hc : c = .cmp .eql (.op .rem .i64 (.v 0) (.lit 2)) (.lit k)) (h1 : -9223372036854775808 ≤ E.i 1 ∧ E.i 1 ≤ 9223372036854775807) (hb : decide (E.i 1 < 0) = b1) : FaOk E ⟨[(geB0, false), (c, true), (geB1, b1)], rrB⟩ := by
  refine ⟨fun c' b hm => ?_, rrB_ok ⟨by omega, h.2⟩ h1⟩
  rcases List.mem_cons.1 hm with e | hm
  · cases e
    show iLt (E.i 0) 0 = false
    rw [iLt_eq]
    exact decide_eq_false (by omega)
  rcases List.mem_cons.1 hm with e | hm
  · cases e
    rw [hc]
    exact eq_true (by rw [den_rem (.v 0) (show 0 ≤ E.i 0 from h.1)]; exact hk)
  rcases List.mem_cons.1 hm with e | hm
  · cases e
    rw [den_b1]; exact hb
  · cases hm
theorem faB1 {k : Nat} {c : SB} {b1 : Bool} (h : -9223372036854775808 ≤ E.i 0 ∧ E.i 0 < 0) (hk : (-(E.i 0 + 1)) % 2 = k) (hc : c = .cmp .eql (.op .rem .i64 (.op .sub .i64 (.lit 0) (.op .add .i64 (.v 0) (.lit 1))) (.lit 2)) (.lit k)) (h1 : -9223372036854775808 ≤ E.i 1 ∧ E.i 1 ≤ 9223372036854775807) (hb : decide (E.i 1 < 0) = b1) : FaOk E ⟨[(geB0, true), (c, true), (geB1, b1)], rrB⟩ := by
  refine ⟨fun c' b hm => ?_, rrB_ok ⟨h.1, by omega⟩ h1⟩
  rcases List.mem_cons.1 hm with e | hm
  · cases e
    show iLt (E.i 0) 0 = true
    rw [iLt_eq]
    exact decide_eq_true h.2
  rcases List.mem_cons.1 hm with e | hm
  · cases e
    rw [hc]
    exact eq_true (by rw [den_rem _ (by rw [den_ng h.1 h.2]; omega), den_ng h.1 h.2]; exact hk)
  rcases List.mem_cons.1 hm with e | hm
  · cases e
    rw [den_b1]; exact hb
  · cases hm
end Go.Ev.X
end
