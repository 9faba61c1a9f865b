/-
  The least bit of a number below 65536. No condition.
-/
import Derived.WalkKit
set_option linter.unusedSimpArgs false
set_option linter.unusedVariables false
namespace Go.Proofs.YtligpkenodgfoaaGreatDoor

def low (x : BitVec 16) : Nat := ((List.range 16).find? (fun i => x.getLsbD i)).getD 16
theorem low_none (x : BitVec 16) (h : ∀ i, i < 16 → x.getLsbD i = false) : x = 0 := by
  apply BitVec.eq_of_getLsbD_eq
  intro i hi
  rw [h i hi]; simp
theorem low_is (x : BitVec 16) (h : x ≠ 0) : low x < 16 ∧ x.getLsbD (low x) = true ∧ ∀ j, j < low x → x.getLsbD j = false := by
  unfold low
  cases hf : (List.range 16).find? (fun i => x.getLsbD i) with
  | none =>
    exfalso
    apply h
    apply low_none
    intro i hi
    have := List.find?_eq_none.1 hf i (by simpa using hi)
    simpa using this
  | some k =>
    have h1 := List.find?_some hf
    obtain ⟨_, h2⟩ := List.find?_eq_some_iff_getElem.1 hf
    obtain ⟨i, hi, he, hb⟩ := h2
    simp at hi he
    subst he
    refine ⟨hi, h1, fun j hj => ?_⟩
    have := hb j hj
    simpa using this
theorem low_pow (x : BitVec 16) (h : x ≠ 0) : x &&& -x = 1#16 <<< low x := by
  obtain ⟨h1, h2, h3⟩ := low_is x h
  apply BitVec.eq_of_getLsbD_eq
  intro i hi
  rw [BitVec.getLsbD_and, BitVec.getLsbD_neg]
  simp only [hi, decide_true, Bool.true_and]
  have hr : (1#16 <<< low x).getLsbD i = decide (i = low x) := by
    simp [BitVec.getLsbD_shiftLeft, hi]
    by_cases h4 : i < low x
    · simp [h4]; omega
    · simp [h4]
      by_cases h5 : i = low x
      · simp [h5]
      · simp [h5]; omega
  rw [hr]
  rcases Nat.lt_trichotomy i (low x) with h4 | h4 | h4
  · rw [h3 i h4]
    simp; omega
  · subst h4
    rw [h2]
    simp
    intro j hj
    exact h3 j hj
  · have : ∃ j, j < i ∧ x.getLsbD j = true := ⟨low x, h4, h2⟩
    have e : decide (∃ j, j < i ∧ x.getLsbD j = true) = true := by simpa using this
    rw [e]
    cases hx : x.getLsbD i <;> simp <;> omega
end Go.Proofs.YtligpkenodgfoaaGreatDoor
