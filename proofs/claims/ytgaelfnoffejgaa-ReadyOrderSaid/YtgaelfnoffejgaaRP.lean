/-
 The queues' words are told by the queues; what goes round comes back.
-/
import Derived.Test.YtgaelfnoffejgaaMHp
import Derived.Test.YtgaelfnoffejgaaMMo
import Derived.Test.YtgaelfnoffejgaaE6
set_option linter.unusedSimpArgs false
set_option linter.unusedVariables false
set_option maxRecDepth 100000
noncomputable section
namespace Go.Ev.X
open Go Go.Ev Go.Proofs
variable {E : Env} {f f' : Nat → Int} {Q : Nat → List Nat} {t : Nat}
theorem made_q (pr : Nat → Int) (hpr : ∀ i, 0 ≤ pr i ∧ pr i < 256) : QInv TT (madeF pr 8) (fun _ => []) ∧ ∀ i, i < 8 → getT (madeF pr 8) (tcM i) = thr0 (pr i) := by
 have lo : ∀ n i, i < 1024 → madeF pr n i = 0 := fun n => by
  induction n with
  | zero => exact fun i _ => rfl
  | succ n ih =>
   intro i hi
   show setT (madeF pr n) (tcM n) _ i = 0
   rw [setT_other _ _ (by unfold tcM; omega)]; exact ih i hi
 have th : ∀ n, n ≤ 8 → ∀ i, i < n → getT (madeF pr n) (tcM i) = thr0 (pr i) ∧ RightAt (madeF pr n) (tcM i) := fun n => by
  induction n with
  | zero => exact fun _ i hi => by omega
  | succ n ih =>
   intro hn i hi
   by_cases e : i = n
   ·subst e
    exact ⟨getT_setT (thr0_right (hpr i)), rightAt_setT (thr0_right (hpr i))⟩
   ·obtain ⟨h1, h2⟩ := ih (by omega) i (by omega)
    have ha : Apart (tcM n) (tcM i) := by unfold Apart tcM; omega
    exact ⟨(getT_other ha).trans h1, rightAt_other ha h2⟩
 have all : ∀ u, TT u → ∃ i, i < 8 ∧ u = tcM i := fun u hu => by
  unfold TT at hu
  rcases hu with rfl | rfl | rfl | rfl | rfl | rfl | rfl | rfl
  ·exact ⟨0, by omega, rfl⟩
  ·exact ⟨1, by omega, rfl⟩
  ·exact ⟨2, by omega, rfl⟩
  ·exact ⟨3, by omega, rfl⟩
  ·exact ⟨4, by omega, rfl⟩
  ·exact ⟨5, by omega, rfl⟩
  ·exact ⟨6, by omega, rfl⟩
  ·exact ⟨7, by omega, rfl⟩
 refine ⟨⟨fun u hu => ?_, fun p u hp hm => (by cases hm), fun u hu hq => ?_, fun u hu _ => ?_, fun p _ => List.nodup_nil, fun p _ => trivial, fun p hp => ?_, fun g hg => ?_, ?_⟩, fun i hi => (th 8 (by omega) i hi).1⟩
 ·obtain ⟨i, hi, rfl⟩ := all u hu
  exact (th 8 (by omega) i hi).2
 ·obtain ⟨i, hi, rfl⟩ := all u hu
  rw [(th 8 (by omega) i hi).1] at hq; cases hq
 ·obtain ⟨i, hi, rfl⟩ := all u hu
  rw [(th 8 (by omega) i hi).1]; exact ⟨rfl, rfl⟩
 ·rw [lo 8 _ (by omega)]; rfl
 ·rw [lo 8 _ (by omega)]
  exact ⟨by omega, by omega, fun k hk => by simp⟩
 ·rw [lo 8 _ (by omega)]
  exact ⟨by omega, by omega, fun g hg => by rw [lo 8 _ (by omega)]; simp⟩
end Go.Ev.X
end
