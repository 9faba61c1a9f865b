/-
 The acts: both memories alike before, alike behind, and rightly at rest.
-/
import Derived.Test.YtkecfebodpkamaaGreatMSp
import Derived.Test.YtkecfebodpkamaaGreatMSr
import Derived.Test.YtkecfebodpkamaaGreatMS0p
import Derived.Test.YtkecfebodpkamaaGreatMS0r
import Derived.Test.YtkecfebodpkamaaGreatMS4p
import Derived.Test.YtkecfebodpkamaaGreatMS4r
import Derived.Test.YtkecfebodpkamaaGreatMH3r
set_option linter.unusedSimpArgs false
set_option linter.unusedVariables false
set_option maxRecDepth 100000
noncomputable section
namespace Go.Ev.X
open Go Go.Ev Go.Proofs
variable {f : Nat → Int} {t : Nat}
def OkW (f : Nat → Int) : Prop := ∃ Q P c, SS TT f Q P c ∧ ∀ t, TT t → 1 ≤ (P t).sl ∧ (P t).sl ≤ 5
def Both (Fp Fr : Nat) (args : List Value) (f : Nat → Int) (ret : Value) (f' : Nat → Int) : Prop := OkW f' ∧ MemE PP cP Fp args f ret f' ∧ MemE PP cR Fr args f ret f'
theorem sl_set {P : Nat → TV} (h : ∀ t, TT t → 1 ≤ (P t).sl ∧ (P t).sl ≤ 5) (u : Nat) {v : TV} (hv : 1 ≤ v.sl ∧ v.sl ≤ 5) : ∀ t, TT t → 1 ≤ (setTh P u v t).sl ∧ (setTh P u v t).sl ≤ 5 := fun t ht => by
 by_cases e : t = u
 ·subst e; rw [setTh_same]; exact hv
 ·rw [setTh_other _ _ e]; exact h t ht
theorem wake_b (h : OkW f) (ht : TT t) : ∃ f', Both 12 46 [.int .i64 t] f (.tuple #[]) f' := by
 obtain ⟨Q, P, c, s, hs⟩ := h
 exact ⟨_, ⟨_, _, _, wake_S TT_thr s ht, sl_set hs t (hs t ht)⟩, wake_cp s ht, wake_cr s ht⟩
theorem stop0_b (h : OkW f) (ht : TT t) : ∃ f', Both 17 47 [.int .i64 t, .int .i64 0] f (.tuple #[]) f' := by
 obtain ⟨Q, P, c, s, hs⟩ := h
 exact ⟨_, ⟨_, _, _, stop_S TT_thr s ht (x := 0) (by omega) (by omega), sl_set hs t (hs t ht)⟩, stop0_cp s ht, stop0_cr s ht⟩
theorem stop4_b (h : OkW f) (ht : TT t) : ∃ f', Both 17 47 [.int .i64 t, .int .i64 4] f (.tuple #[]) f' := by
 obtain ⟨Q, P, c, s, hs⟩ := h
 exact ⟨_, ⟨_, _, _, stop_S TT_thr s ht (x := 4) (by omega) (by omega), sl_set hs t (hs t ht)⟩, stop4_cp s ht, stop4_cr s ht⟩
theorem yield_b (h : OkW f) : ∃ f', Both 22 48 [] f (.tuple #[]) f' := by
 obtain ⟨Q, P, c, s, hs⟩ := h
 refine ⟨yieldF f, ?_, yield_cp s, yield_cr s⟩
 unfold yieldF
 rcases s.ct with rfl | hc
 ·rw [if_pos (show f 1 = 0 from s.cur)]; exact ⟨_, _, _, s, hs⟩
 ·have := TT_thr.lo c hc
  rw [if_neg (show ¬ f 1 = 0 by rw [s.cur]; omega), cur_nat s]
  exact ⟨_, _, _, yieldA_S TT_thr s hc, sl_set hs c (show (1 : Int) ≤ 5 ∧ (5 : Int) ≤ 5 by omega)⟩
theorem tick_b (h : OkW f) : ∃ f', Both 14 49 [] f (.tuple #[]) f' := by
 obtain ⟨Q, P, c, s, hs⟩ := h
 refine ⟨tickF f, ?_, tick_cp s (fun hc => (hs c hc).1), tick_cr s (fun hc => (hs c hc).1)⟩
 unfold tickF
 rcases s.ct with rfl | hc
 ·rw [if_pos (show f 1 = 0 from s.cur)]; exact ⟨_, _, _, s, hs⟩
 ·have := TT_thr.lo c hc
  rw [if_neg (show ¬ f 1 = 0 by rw [s.cur]; omega), cur_nat s]
  have h1 := hs c hc
  by_cases hl : (P c).sl ≤ 1
  ·exact ⟨_, _, _, (tickA_S TT_thr s hc h1.1).1 hl, sl_set hs c (show (1 : Int) ≤ 5 ∧ (5 : Int) ≤ 5 by omega)⟩
  ·exact ⟨_, _, _, (tickA_S TT_thr s hc h1.1).2 (by omega), sl_set hs c (show (1 : Int) ≤ (P c).sl - 1 ∧ (P c).sl - 1 ≤ 5 by omega)⟩
theorem pr_b (h : OkW f) (ht : TT t) {p : Int} (hp : 0 ≤ p ∧ p < 256) : ∃ f', Both 11 50 [.int .i64 t, .int .i64 p] f (.int .i64 0) f' := by
 obtain ⟨Q, P, c, s, hs⟩ := h
 refine ⟨_, ?_, pr_cp s ht hp, pr_cr s ht hp⟩
 cases hq : (getT f t).q with
 | false => exact ⟨_, _, _, prA_S TT_thr s ht hq hp, sl_set hs t (hs t ht)⟩
 | true => exact ⟨_, _, _, prB_S TT_thr s ht hq hp, sl_set hs t (hs t ht)⟩
theorem settle_b (h : OkW f) : ∃ f', Both 13 51 [] f (.tuple #[]) f' := by
 obtain ⟨Q, P, c, s, hs⟩ := h
 obtain ⟨o, ho, hp⟩ := high_p s.q
 have hr := high_r s.q ho
 cases ho with
 | none hz => exact ⟨f, ⟨_, _, _, s, hs⟩, settle0_p s hp, settle0_r s hr⟩
 | some p hp256 hne hab =>
  match hQ : Q p, hne with
  | h :: r, _ =>
   have e : topH Q (some p) = (h : Int) := by show ((hdN (Q p) 0 : Nat) : Int) = h; rw [hQ]; rfl
   rw [e] at hp hr
   obtain ⟨hT, _, hq⟩ := s.q.el p h hp256 (by rw [hQ]; simp)
   refine ⟨settleA f h, ?_, settle_cp s hT hq hp, settle_cr s hT hq hr⟩
   obtain ⟨g1, g2, g3⟩ := settle_S TT_thr s hp256 hQ
   by_cases h0 : c = 0
   ·exact ⟨_, _, _, g1 h0, hs⟩
   ·by_cases hle : (P h).pr ≤ (P c).pr
    ·rw [g2 h0 hle]; exact ⟨_, _, _, s, hs⟩
    ·exact ⟨_, _, _, g3 h0 hle, hs⟩
end Go.Ev.X
end
