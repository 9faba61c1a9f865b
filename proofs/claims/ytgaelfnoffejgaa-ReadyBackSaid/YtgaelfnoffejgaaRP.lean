/-
 The queues' words are told by the queues; what goes round comes back.
-/
import Derived.Test.YtgaelfnoffejgaaMHp
import Derived.Test.YtgaelfnoffejgaaMO
import Derived.Test.YtgaelfnoffejgaaE6
set_option linter.unusedSimpArgs false
set_option linter.unusedVariables false
set_option maxRecDepth 100000
noncomputable section
namespace Go.Ev.X
open Go Go.Ev Go.Proofs
variable {E : Env} {f f' : Nat → Int} {Q : Nat → List Nat} {t : Nat}
def Out (i : Nat) : Prop := i ≠ 4 ∧ (i < 8 ∨ 12 ≤ i) ∧ (i < 256 ∨ 512 ≤ i) ∧ ∀ u, TT u → i < u + 16 ∨ u + 20 ≤ i
theorem lk_det : ∀ {L : List Nat} {p n : Nat}, Lk f p L n → Lk f' p L n → ∀ u ∈ L, (getT f' u).pv = (getT f u).pv ∧ (getT f' u).nx = (getT f u).nx
 | [], _, _, _, _, u, hu => by cases hu
 | t :: r, p, n, h, h', u, hu => by
  rcases List.mem_cons.1 hu with rfl | hu
  ·exact ⟨h'.1.trans h.1.symm, h'.2.1.trans h.2.1.symm⟩
  ·exact lk_det h.2.2 h'.2.2 u hu
theorem core_ext {a b : TV} (h : core a = core b) (hq : a.q = b.q) (hp : a.pv = b.pv) (hn : a.nx = b.nx) : a = b := by
 cases a; cases b
 simp only [core, TV.mk.injEq] at h ⊢
 simp_all
theorem getT_ext (h : QInv TT f Q) (h' : QInv TT f' Q) {u : Nat} (hu : TT u) (hc : core (getT f' u) = core (getT f u)) : getT f' u = getT f u := by
 have hpr : (getT f' u).pr = (getT f u).pr := by
  have := congrArg TV.pr hc
  exact this
 obtain ⟨hp, hpe⟩ := pr_nat h hu
 cases hq : (getT f u).q with
 | true =>
  have hm := h.off u hu hq
  have hq' := (h'.el _ u hp hm).2.2
  obtain ⟨e1, e2⟩ := lk_det (h.lk _ hp) (h'.lk _ hp) u hm
  exact core_ext hc (by rw [hq, hq']) e1 e2
 | false =>
  have hq' : (getT f' u).q = false := by
   cases hx : (getT f' u).q with
   | false => rfl
   | true =>
    have hm := h'.off u hu hx
    rw [hpr] at hm
    have := (h.el _ u hp hm).2.2
    rw [hq] at this; cases this
  obtain ⟨a1, a2⟩ := h.free u hu hq
  obtain ⟨b1, b2⟩ := h'.free u hu hq'
  exact core_ext hc (by rw [hq, hq']) (b1.trans a1.symm) (b2.trans a2.symm)
theorem bits_ext {a b : Int} (ha : 0 ≤ a ∧ a < 18446744073709551616) (hb : 0 ≤ b ∧ b < 18446744073709551616) (h : ∀ k, k < 64 → Nat.testBit a.toNat k = Nat.testBit b.toNat k) : a = b := by
 have : a.toNat = b.toNat := Nat.eq_of_testBit_eq fun k => by
  by_cases hk : k < 64
  ·exact h k hk
  ·have h64 : (2 : Nat) ^ 64 = 18446744073709551616 := by decide
   have hp : (2 : Nat) ^ 64 ≤ 2 ^ k := Nat.pow_le_pow_right (by decide) (by omega)
   rw [Nat.testBit_lt_two_pow (by omega), Nat.testBit_lt_two_pow (by omega)]
 omega
theorem words_ext (h : QInv TT f Q) (h' : QInv TT f' Q) (hc : ∀ u, TT u → core (getT f' u) = core (getT f u)) (ho : ∀ i, Out i → f' i = f i) : f' = f := by
 have hbm : ∀ g, g < 4 → f' (8 + g) = f (8 + g) := fun g hg => by
  obtain ⟨a0, a1, a2⟩ := h.bm g hg
  obtain ⟨b0, b1, b2⟩ := h'.bm g hg
  exact bits_ext ⟨b0, b1⟩ ⟨a0, a1⟩ fun k hk => (b2 k hk).trans (a2 k hk).symm
 refine funext fun i => ?_
 by_cases e4 : i = 4
 ·subst e4
  obtain ⟨a0, a1, a2⟩ := h.sm
  obtain ⟨b0, b1, b2⟩ := h'.sm
  refine bits_ext ⟨b0, by omega⟩ ⟨a0, by omega⟩ fun k hk => ?_
  by_cases hk4 : k < 4
  ·rw [b2 k hk4, a2 k hk4, hbm k hk4]
  ·have hp : (2 : Nat) ^ 4 ≤ 2 ^ k := Nat.pow_le_pow_right (by decide) (by omega)
   have h16 : (2 : Nat) ^ 4 = 16 := rfl
   rw [Nat.testBit_lt_two_pow (by omega), Nat.testBit_lt_two_pow (by omega)]
 by_cases e8 : 8 ≤ i ∧ i < 12
 ·have := hbm (i - 8) (by omega)
  rw [show 8 + (i - 8) = i from by omega] at this; exact this
 by_cases eq : 256 ≤ i ∧ i < 512
 ·have a := h.hd (i - 256) (by omega)
  have b := h'.hd (i - 256) (by omega)
  rw [show 256 + (i - 256) = i from by omega] at a b
  rw [a, b]
 by_cases et : ∃ u, TT u ∧ u + 16 ≤ i ∧ i < u + 20
 ·obtain ⟨u, hu, h1, h2⟩ := et
  have hg := getT_ext h h' hu (hc u hu)
  have r := h.thr u hu
  have r' := h'.thr u hu
  obtain ⟨a1, a2, a3, a4⟩ := w_getW r.a r.b r.c r.d
  obtain ⟨b1, b2, b3, b4⟩ := w_getW r'.a r'.b r'.c r'.d
  have hg : getW (f' (u + 16)) (f' (u + 17)) (f' (u + 18)) (f' (u + 19)) = getW (f (u + 16)) (f (u + 17)) (f (u + 18)) (f (u + 19)) := hg
  rw [hg] at b1 b2 b3 b4
  have : i = u + 16 ∨ i = u + 17 ∨ i = u + 18 ∨ i = u + 19 := by omega
  rcases this with rfl | rfl | rfl | rfl
  ·exact b1.symm.trans a1
  ·exact b2.symm.trans a2
  ·exact b3.symm.trans a3
  ·exact b4.symm.trans a4
 ·exact ho i ⟨e4, by omega, by omega, fun u hu => by
   by_cases h : i < u + 16 ∨ u + 20 ≤ i
   ·exact h
   ·exact absurd ⟨u, hu, by omega, by omega⟩ et⟩
theorem setT_out {u : Nat} (hu : TT u) (v : TV) {i : Nat} (ho : Out i) : setT f u v i = f i := setT_other f v (ho.2.2.2 u hu)
theorem setQ_out {p : Nat} (hp : p < 256) (a b : Int) {i : Nat} (ho : Out i) : setQ f p a b i = f i := setQ_other f p a b (by have := ho.2.2.1; omega) (by have := ho.2.1; omega) ho.1
theorem push_out (h : QInv TT f Q) (ht : TT t) {i : Nat} (ho : Out i) : pushF f t i = f i := by
 obtain ⟨hp, hpe⟩ := pr_nat h ht
 unfold pushF
 rw [headOf_eq TT_thr h hp, tailOf_eq TT_thr h hp]
 split
 ·rw [setQ_out hp _ _ ho, setT_out ht _ ho]
 ·rename_i hne
  have he : Q (getT f t).pr.toNat ≠ [] := fun e => hne (by rw [e]; rfl)
  have hz := (h.el _ _ hp (laN_mem (p := 0) he)).1
  rw [setQ_out hp _ _ ho]
  unfold linkN
  rw [Int.toNat_natCast, setT_out hz _ ho, setT_out ht _ ho]
theorem front_out (h : QInv TT f Q) (ht : TT t) {i : Nat} (ho : Out i) : pushFrontF f t i = f i := by
 obtain ⟨hp, hpe⟩ := pr_nat h ht
 unfold pushFrontF
 rw [headOf_eq TT_thr h hp, tailOf_eq TT_thr h hp]
 split
 ·rw [setQ_out hp _ _ ho, setT_out ht _ ho]
 ·rename_i hne
  have he : Q (getT f t).pr.toNat ≠ [] := fun e => hne (by rw [e]; rfl)
  have hz := (h.el _ _ hp (hdN_mem (n := 0) he)).1
  rw [setQ_out hp _ _ ho]
  unfold linkP
  rw [Int.toNat_natCast, setT_out hz _ ho, setT_out ht _ ho]
theorem links_tt (h : QInv TT f Q) (ht : TT t) (hq : (getT f t).q = true) : ((getT f t).pv ≠ 0 → TT (getT f t).pv.toNat) ∧ ((getT f t).nx ≠ 0 → TT (getT f t).nx.toNat) := by
 obtain ⟨hp, hpe⟩ := pr_nat h ht
 obtain ⟨a, b, hab⟩ := List.append_of_mem (h.off t ht hq)
 have hlk := h.lk _ hp
 rw [hab] at hlk
 have hl := (Lk_app.1 hlk).2
 obtain ⟨l1, l2, _⟩ := hl
 refine ⟨fun hne => ?_, fun hne => ?_⟩
 ·rw [l1] at hne ⊢
  have ha : a ≠ [] := fun e => hne (by rw [e]; rfl)
  rw [Int.toNat_natCast]
  exact (h.el _ _ hp (by rw [hab]; exact List.mem_append_left _ (laN_mem (p := 0) ha))).1
 ·rw [l2] at hne ⊢
  have hb : b ≠ [] := fun e => hne (by rw [e]; rfl)
  rw [Int.toNat_natCast]
  exact (h.el _ _ hp (by rw [hab]; exact List.mem_append_right _ (List.mem_cons_of_mem _ (hdN_mem (n := 0) hb)))).1
theorem drop_out (h : QInv TT f Q) (ht : TT t) (hq : (getT f t).q = true) {i : Nat} (ho : Out i) : dropF f t i = f i := by
 obtain ⟨hp, hpe⟩ := pr_nat h ht
 obtain ⟨h1, h2⟩ := links_tt h ht hq
 unfold dropF
 rw [setQ_out hp _ _ ho, setT_out ht _ ho]
 have hA : drpA f t i = f i := by
  unfold drpA
  split
  ·rfl
  ·rename_i hne
   unfold linkN
   rw [setT_out (h1 hne) _ ho]
 unfold drpB
 split
 ·exact hA
 ·rename_i hne
  unfold linkP
  rw [setT_out (h2 hne) _ ho]; exact hA
theorem made_q (pr : Nat → Int) (hpr : ∀ i, 0 ≤ pr i ∧ pr i < 256) : QInv TT (madeF pr 8) (fun _ => []) ∧ ∀ i, i < 8 → getT (madeF pr 8) (tcM i) = thr0 (pr i) := by
 have lo : ∀ n i, i < 1024 → madeF pr n i = 0 := fun n => by
  induction n with
  | zero => exact fun i _ => rfl
  | succ n ih =>
   intro i hi
   show setT (madeF pr n) (tcM n) _ i = 0
   rw [setT_other _ _ (by unfold tcM; omega)]; exact ih i hi
 have th : ∀ n, n ≤ 8 → ∀ i, i < n → getT (madeF pr n) (tcM i) = thr0 (pr i) ∧ RightAt (madeF pr n) (tcM i) := fun n => by
  induction n with
  | zero => exact fun _ i hi => by omega
  | succ n ih =>
   intro hn i hi
   by_cases e : i = n
   ·subst e
    exact ⟨getT_setT (thr0_right (hpr i)), rightAt_setT (thr0_right (hpr i))⟩
   ·obtain ⟨h1, h2⟩ := ih (by omega) i (by omega)
    have ha : Apart (tcM n) (tcM i) := by unfold Apart tcM; omega
    exact ⟨(getT_other ha).trans h1, rightAt_other ha h2⟩
 have all : ∀ u, TT u → ∃ i, i < 8 ∧ u = tcM i := fun u hu => by
  unfold TT at hu
  rcases hu with rfl | rfl | rfl | rfl | rfl | rfl | rfl | rfl
  ·exact ⟨0, by omega, rfl⟩
  ·exact ⟨1, by omega, rfl⟩
  ·exact ⟨2, by omega, rfl⟩
  ·exact ⟨3, by omega, rfl⟩
  ·exact ⟨4, by omega, rfl⟩
  ·exact ⟨5, by omega, rfl⟩
  ·exact ⟨6, by omega, rfl⟩
  ·exact ⟨7, by omega, rfl⟩
 refine ⟨⟨fun u hu => ?_, fun p u hp hm => (by cases hm), fun u hu hq => ?_, fun u hu _ => ?_, fun p _ => List.nodup_nil, fun p _ => trivial, fun p hp => ?_, fun g hg => ?_, ?_⟩, fun i hi => (th 8 (by omega) i hi).1⟩
 ·obtain ⟨i, hi, rfl⟩ := all u hu
  exact (th 8 (by omega) i hi).2
 ·obtain ⟨i, hi, rfl⟩ := all u hu
  rw [(th 8 (by omega) i hi).1] at hq; cases hq
 ·obtain ⟨i, hi, rfl⟩ := all u hu
  rw [(th 8 (by omega) i hi).1]; exact ⟨rfl, rfl⟩
 ·rw [lo 8 _ (by omega)]; rfl
 ·rw [lo 8 _ (by omega)]
  exact ⟨by omega, by omega, fun k hk => by simp⟩
 ·rw [lo 8 _ (by omega)]
  exact ⟨by omega, by omega, fun g hg => by rw [lo 8 _ (by omega)]; simp⟩
end Go.Ev.X
end
