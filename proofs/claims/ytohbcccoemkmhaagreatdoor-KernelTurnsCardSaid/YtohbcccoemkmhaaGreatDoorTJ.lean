/-
  KernelTurns: what holds at the loop's head; the truths.
-/
import Derived.Test.YtohbcccoemkmhaaGreatDoorGH
set_option linter.unusedSimpArgs false
set_option linter.unusedVariables false
set_option maxRecDepth 100000
noncomputable section
namespace Go.Ev.X
open Go Go.Ev
variable {E : Env}
/-- 10 q + j rounds are done: the two threads ran so often; there are m left at most -/
def InvT (m j : Nat) (E : Env) : Prop := j < 10 ∧ ∃ q : Int, 0 ≤ q ∧ E.i 4 = 10 * q + j ∧ E.i 2 = 5 * q + (if j < 5 then (j : Int) else 5) ∧ E.i 3 = 5 * q + (if j < 5 then (0 : Int) else (j : Int) - 5) ∧ E.i 4 ≤ E.i 5 ∧ E.i 5 ≤ 99 ∧ (m : Int) = 100 - E.i 4
theorem go_ok (h : E.i 4 < E.i 5) : FaOk E ⟨[(.cmp .lss (.v 4) (.v 5), true)], []⟩ := by
  refine ⟨fun c b hm => ?_, fun _ _ _ hm => by cases hm⟩
  rcases List.mem_cons.1 hm with e | hm
  · cases e
    show iLt (E.i 4) (E.i 5) = true
    rw [iLt_eq]; exact decide_eq_true h
  · cases hm
theorem wh_den (h0 : 0 ≤ E.i 5) (h1 : E.i 5 ≤ 99) : SE.den E whT = E.i 5 / 10 * 5 := by
  show IntKind.wrap .u64 (wrapF .i64 (wrapF .i64 ((E.i 5).tdiv 10) * 5)) = _
  rw [wrapF_eq, wrapF_eq, IntKind.wrap_i64, IntKind.wrap_i64, IntKind.wrap_u64, Int.tdiv_eq_ediv_of_nonneg h0]
  omega
theorem wh5_den (h0 : 0 ≤ E.i 5) (h1 : E.i 5 ≤ 99) : SE.den E (.op .add .u64 whT (.lit 5)) = E.i 5 / 10 * 5 + 5 := by
  show wrapF .u64 (SE.den E whT + 5) = _
  rw [wh_den h0 h1, wrapF_eq, IntKind.wrap_u64]
  omega
theorem out_ok {m j : Nat} (hI : InvT m j E) (h : ¬ E.i 4 < E.i 5) : FaOk E ⟨flO, []⟩ := by
  obtain ⟨hj, q, hq, h4, h2, h3, h45, h5, hm⟩ := hI
  have e5 : E.i 5 = 10 * q + j := by omega
  have w := wh_den (E := E) (by omega) h5
  have w5 := wh5_den (E := E) (by omega) h5
  have ew : E.i 5 / 10 * 5 = 5 * q := by omega
  rw [ew] at w w5
  have b2 : 5 * q ≤ E.i 2 ∧ E.i 2 ≤ 5 * q + 5 := by split at h2 <;> omega
  have b3 : 5 * q ≤ E.i 3 ∧ E.i 3 ≤ 5 * q + 5 := by split at h3 <;> omega
  have all : ∀ x ∈ flO, SB.den E x.1 = x.2 := by
    unfold flO
    simp only [List.mem_cons, List.not_mem_nil, or_false, forall_eq_or_imp, forall_eq]
    refine ⟨?_, ?_, ?_, ?_, ?_⟩
    · show iLt (E.i 4) (E.i 5) = false
      rw [iLt_eq]; exact decide_eq_false h
    · show iLt (E.i 2) (SE.den E whT) = false
      rw [w, iLt_eq]; exact decide_eq_false (by omega)
    · show iLt (SE.den E (.op .add .u64 whT (.lit 5))) (E.i 2) = false
      rw [w5, iLt_eq]; exact decide_eq_false (by omega)
    · show iLt (E.i 3) (SE.den E whT) = false
      rw [w, iLt_eq]; exact decide_eq_false (by omega)
    · show iLt (SE.den E (.op .add .u64 whT (.lit 5))) (E.i 3) = false
      rw [w5, iLt_eq]; exact decide_eq_false (by omega)
  exact ⟨fun c b hm => all (c, b) hm, fun _ _ _ hm => by cases hm⟩
theorem add1 {x : Int} (h0 : 0 ≤ x) (h1 : x ≤ 1000) : wrapF .i64 (x + 1) = x + 1 := by rw [wrapF_eq, IntKind.wrap_i64]; omega
theorem add1u {x : Int} (h0 : 0 ≤ x) (h1 : x ≤ 1000) : wrapF .u64 (x + 1) = x + 1 := by rw [wrapF_eq, IntKind.wrap_u64]; omega
theorem next0 {m : Nat} (hI : InvT m 0 E) (h : E.i 4 < E.i 5) : ∃ m', m' < m ∧ InvT m' 1 (anew sg0 E) := by
  obtain ⟨_, q, hq, h4, h2, h3, h45, h5, hm⟩ := hI
  have e4 : (anew sg0 E).i 4 = E.i 4 + 1 := add1 (x := E.i 4) (by omega) (by omega)
  have e5 : (anew sg0 E).i 5 = E.i 5 := rfl
  have e2 : (anew sg0 E).i 2 = E.i 2 + 1 := add1u (x := E.i 2) (by simp at h2; omega) (by simp at h2; omega)
  have e3 : (anew sg0 E).i 3 = E.i 3 := rfl
  simp at h2 h3 h4
  refine ⟨m - 1, by omega, by omega, q, by omega, by rw [e4]; omega, by rw [e2]; simp; omega, by rw [e3]; simp; omega, by rw [e4, e5]; omega, by rw [e5]; exact h5, by rw [e4]; omega⟩
theorem next1 {m : Nat} (hI : InvT m 1 E) (h : E.i 4 < E.i 5) : ∃ m', m' < m ∧ InvT m' 2 (anew sg1 E) := by
  obtain ⟨_, q, hq, h4, h2, h3, h45, h5, hm⟩ := hI
  have e4 : (anew sg1 E).i 4 = E.i 4 + 1 := add1 (x := E.i 4) (by omega) (by omega)
  have e5 : (anew sg1 E).i 5 = E.i 5 := rfl
  have e2 : (anew sg1 E).i 2 = E.i 2 + 1 := add1u (x := E.i 2) (by simp at h2; omega) (by simp at h2; omega)
  have e3 : (anew sg1 E).i 3 = E.i 3 := rfl
  simp at h2 h3 h4
  refine ⟨m - 1, by omega, by omega, q, by omega, by rw [e4]; omega, by rw [e2]; simp; omega, by rw [e3]; simp; omega, by rw [e4, e5]; omega, by rw [e5]; exact h5, by rw [e4]; omega⟩
theorem next2 {m : Nat} (hI : InvT m 2 E) (h : E.i 4 < E.i 5) : ∃ m', m' < m ∧ InvT m' 3 (anew sg2 E) := by
  obtain ⟨_, q, hq, h4, h2, h3, h45, h5, hm⟩ := hI
  have e4 : (anew sg2 E).i 4 = E.i 4 + 1 := add1 (x := E.i 4) (by omega) (by omega)
  have e5 : (anew sg2 E).i 5 = E.i 5 := rfl
  have e2 : (anew sg2 E).i 2 = E.i 2 + 1 := add1u (x := E.i 2) (by simp at h2; omega) (by simp at h2; omega)
  have e3 : (anew sg2 E).i 3 = E.i 3 := rfl
  simp at h2 h3 h4
  refine ⟨m - 1, by omega, by omega, q, by omega, by rw [e4]; omega, by rw [e2]; simp; omega, by rw [e3]; simp; omega, by rw [e4, e5]; omega, by rw [e5]; exact h5, by rw [e4]; omega⟩
theorem next3 {m : Nat} (hI : InvT m 3 E) (h : E.i 4 < E.i 5) : ∃ m', m' < m ∧ InvT m' 4 (anew sg3 E) := by
  obtain ⟨_, q, hq, h4, h2, h3, h45, h5, hm⟩ := hI
  have e4 : (anew sg3 E).i 4 = E.i 4 + 1 := add1 (x := E.i 4) (by omega) (by omega)
  have e5 : (anew sg3 E).i 5 = E.i 5 := rfl
  have e2 : (anew sg3 E).i 2 = E.i 2 + 1 := add1u (x := E.i 2) (by simp at h2; omega) (by simp at h2; omega)
  have e3 : (anew sg3 E).i 3 = E.i 3 := rfl
  simp at h2 h3 h4
  refine ⟨m - 1, by omega, by omega, q, by omega, by rw [e4]; omega, by rw [e2]; simp; omega, by rw [e3]; simp; omega, by rw [e4, e5]; omega, by rw [e5]; exact h5, by rw [e4]; omega⟩
theorem next4 {m : Nat} (hI : InvT m 4 E) (h : E.i 4 < E.i 5) : ∃ m', m' < m ∧ InvT m' 5 (anew sg4 E) := by
  obtain ⟨_, q, hq, h4, h2, h3, h45, h5, hm⟩ := hI
  have e4 : (anew sg4 E).i 4 = E.i 4 + 1 := add1 (x := E.i 4) (by omega) (by omega)
  have e5 : (anew sg4 E).i 5 = E.i 5 := rfl
  have e2 : (anew sg4 E).i 2 = E.i 2 + 1 := add1u (x := E.i 2) (by simp at h2; omega) (by simp at h2; omega)
  have e3 : (anew sg4 E).i 3 = E.i 3 := rfl
  simp at h2 h3 h4
  refine ⟨m - 1, by omega, by omega, q, by omega, by rw [e4]; omega, by rw [e2]; simp; omega, by rw [e3]; simp; omega, by rw [e4, e5]; omega, by rw [e5]; exact h5, by rw [e4]; omega⟩
theorem next5 {m : Nat} (hI : InvT m 5 E) (h : E.i 4 < E.i 5) : ∃ m', m' < m ∧ InvT m' 6 (anew sg5 E) := by
  obtain ⟨_, q, hq, h4, h2, h3, h45, h5, hm⟩ := hI
  have e4 : (anew sg5 E).i 4 = E.i 4 + 1 := add1 (x := E.i 4) (by omega) (by omega)
  have e5 : (anew sg5 E).i 5 = E.i 5 := rfl
  have e2 : (anew sg5 E).i 2 = E.i 2 := rfl
  have e3 : (anew sg5 E).i 3 = E.i 3 + 1 := add1u (x := E.i 3) (by simp at h3; omega) (by simp at h3; omega)
  simp at h2 h3 h4
  refine ⟨m - 1, by omega, by omega, q, by omega, by rw [e4]; omega, by rw [e2]; simp; omega, by rw [e3]; simp; omega, by rw [e4, e5]; omega, by rw [e5]; exact h5, by rw [e4]; omega⟩
theorem next6 {m : Nat} (hI : InvT m 6 E) (h : E.i 4 < E.i 5) : ∃ m', m' < m ∧ InvT m' 7 (anew sg6 E) := by
  obtain ⟨_, q, hq, h4, h2, h3, h45, h5, hm⟩ := hI
  have e4 : (anew sg6 E).i 4 = E.i 4 + 1 := add1 (x := E.i 4) (by omega) (by omega)
  have e5 : (anew sg6 E).i 5 = E.i 5 := rfl
  have e2 : (anew sg6 E).i 2 = E.i 2 := rfl
  have e3 : (anew sg6 E).i 3 = E.i 3 + 1 := add1u (x := E.i 3) (by simp at h3; omega) (by simp at h3; omega)
  simp at h2 h3 h4
  refine ⟨m - 1, by omega, by omega, q, by omega, by rw [e4]; omega, by rw [e2]; simp; omega, by rw [e3]; simp; omega, by rw [e4, e5]; omega, by rw [e5]; exact h5, by rw [e4]; omega⟩
theorem next7 {m : Nat} (hI : InvT m 7 E) (h : E.i 4 < E.i 5) : ∃ m', m' < m ∧ InvT m' 8 (anew sg7 E) := by
  obtain ⟨_, q, hq, h4, h2, h3, h45, h5, hm⟩ := hI
  have e4 : (anew sg7 E).i 4 = E.i 4 + 1 := add1 (x := E.i 4) (by omega) (by omega)
  have e5 : (anew sg7 E).i 5 = E.i 5 := rfl
  have e2 : (anew sg7 E).i 2 = E.i 2 := rfl
  have e3 : (anew sg7 E).i 3 = E.i 3 + 1 := add1u (x := E.i 3) (by simp at h3; omega) (by simp at h3; omega)
  simp at h2 h3 h4
  refine ⟨m - 1, by omega, by omega, q, by omega, by rw [e4]; omega, by rw [e2]; simp; omega, by rw [e3]; simp; omega, by rw [e4, e5]; omega, by rw [e5]; exact h5, by rw [e4]; omega⟩
theorem next8 {m : Nat} (hI : InvT m 8 E) (h : E.i 4 < E.i 5) : ∃ m', m' < m ∧ InvT m' 9 (anew sg8 E) := by
  obtain ⟨_, q, hq, h4, h2, h3, h45, h5, hm⟩ := hI
  have e4 : (anew sg8 E).i 4 = E.i 4 + 1 := add1 (x := E.i 4) (by omega) (by omega)
  have e5 : (anew sg8 E).i 5 = E.i 5 := rfl
  have e2 : (anew sg8 E).i 2 = E.i 2 := rfl
  have e3 : (anew sg8 E).i 3 = E.i 3 + 1 := add1u (x := E.i 3) (by simp at h3; omega) (by simp at h3; omega)
  simp at h2 h3 h4
  refine ⟨m - 1, by omega, by omega, q, by omega, by rw [e4]; omega, by rw [e2]; simp; omega, by rw [e3]; simp; omega, by rw [e4, e5]; omega, by rw [e5]; exact h5, by rw [e4]; omega⟩
theorem next9 {m : Nat} (hI : InvT m 9 E) (h : E.i 4 < E.i 5) : ∃ m', m' < m ∧ InvT m' 0 (anew sg9 E) := by
  obtain ⟨_, q, hq, h4, h2, h3, h45, h5, hm⟩ := hI
  have e4 : (anew sg9 E).i 4 = E.i 4 + 1 := add1 (x := E.i 4) (by omega) (by omega)
  have e5 : (anew sg9 E).i 5 = E.i 5 := rfl
  have e2 : (anew sg9 E).i 2 = E.i 2 := rfl
  have e3 : (anew sg9 E).i 3 = E.i 3 + 1 := add1u (x := E.i 3) (by simp at h3; omega) (by simp at h3; omega)
  simp at h2 h3 h4
  refine ⟨m - 1, by omega, by omega, q + 1, by omega, by rw [e4]; omega, by rw [e2]; simp; omega, by rw [e3]; simp; omega, by rw [e4, e5]; omega, by rw [e5]; exact h5, by rw [e4]; omega⟩
end Go.Ev.X
end
