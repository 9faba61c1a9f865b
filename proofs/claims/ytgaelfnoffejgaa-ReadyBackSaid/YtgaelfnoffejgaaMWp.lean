/-
 Pushing and dropping, whole (the program).
-/
import Derived.Test.YtgaelfnoffejgaaMDp
set_option linter.unusedSimpArgs false
set_option linter.unusedVariables false
set_option maxRecDepth 100000
noncomputable section
namespace Go.Ev.X
open Go Go.Ev Go.Proofs
variable {f : Nat → Int} {Q : Nat → List Nat} {t : Nat}
theorem push_cp (h : QInv TT f Q) (ht : TT t) (hq : (getT f t).q = false) : MemE PP cP 11 [.int .i64 t] f (.int .i64 0) (pushF f t) := by
 obtain ⟨hp, hpe⟩ := pr_nat h ht
 by_cases he : Q (getT f t).pr.toNat = []
 ·have k := push_e_p h ht hq he
  have hH : headOf f (getT f t).pr.toNat = 0 := by rw [headOf_eq TT_thr h hp, he]; rfl
  unfold pushF
  rw [if_pos hH]
  exact k
 ·have k := push_m_p h ht hq he (rfl : laN (Q (getT f t).pr.toNat) 0 = _)
  have hH : headOf f (getT f t).pr.toNat ≠ 0 := by
   have := TT_thr.lo _ (h.el _ _ hp (hdN_mem (n := 0) he)).1
   rw [headOf_eq TT_thr h hp]; omega
  unfold pushF
  rw [if_neg hH]
  unfold linkN
  rw [tailOf_eq TT_thr h hp, Int.toNat_natCast]
  exact k
theorem front_cp (h : QInv TT f Q) (ht : TT t) (hq : (getT f t).q = false) : MemE PP cP 21 [.int .i64 t] f (.int .i64 0) (pushFrontF f t) := by
 obtain ⟨hp, hpe⟩ := pr_nat h ht
 by_cases he : Q (getT f t).pr.toNat = []
 ·have k := front_e_p h ht hq he
  have hH : headOf f (getT f t).pr.toNat = 0 := by rw [headOf_eq TT_thr h hp, he]; rfl
  unfold pushFrontF
  rw [if_pos hH]
  exact k
 ·have k := front_m_p h ht hq he (rfl : hdN (Q (getT f t).pr.toNat) 0 = _)
  have hH : headOf f (getT f t).pr.toNat ≠ 0 := by
   have := TT_thr.lo _ (h.el _ _ hp (hdN_mem (n := 0) he)).1
   rw [headOf_eq TT_thr h hp]; omega
  unfold pushFrontF
  rw [if_neg hH]
  unfold linkP
  rw [headOf_eq TT_thr h hp, Int.toNat_natCast]
  exact k
theorem drop_cp (h : QInv TT f Q) (ht : TT t) (hq : (getT f t).q = true) : MemE PP cP 12 [.int .i64 t] f (.int .i64 0) (dropF f t) := by
 obtain ⟨hp, hpe⟩ := pr_nat h ht
 obtain ⟨a, b, hab⟩ := List.append_of_mem (h.off t ht hq)
 have hlk := h.lk _ hp
 have hnd := h.nd _ hp
 have hH' := headOf_eq TT_thr h hp
 have hL' := tailOf_eq TT_thr h hp
 rw [hab] at hlk hnd hH' hL'
 rw [hdN_app] at hH'
 rw [laN_app] at hL'
 obtain ⟨na, nb, nab⟩ := List.nodup_append.1 hnd
 have nb' := List.nodup_cons.1 nb
 have nta : t ∉ a := fun hx => nab t hx t (by simp) rfl
 have ntb : t ∉ b := nb'.1
 obtain ⟨lka, lkt⟩ := Lk_app.1 hlk
 obtain ⟨epv, enx, lkb⟩ := lkt
 have ma : ∀ u, u ∈ a → TT u := fun u hu => (h.el _ u hp (by rw [hab]; simp [hu])).1
 have mb : ∀ u, u ∈ b → TT u := fun u hu => (h.el _ u hp (by rw [hab]; simp [hu])).1
 unfold dropF drpB drpA linkN linkP
 by_cases ha : a = []
 ·have e1 : (getT f t).pv = 0 := by rw [epv, ha]; rfl
  have e2 : headOf f (getT f t).pr.toNat = (t : Int) := by rw [hH', ha]; rfl
  rw [if_pos e1, if_pos e2]
  by_cases hb : b = []
  ·have e3 : (getT f t).nx = 0 := by rw [enx, hb]; rfl
   have e4 : tailOf f (getT f t).pr.toNat = (t : Int) := by rw [hL', hb]; rfl
   rw [if_pos e3, if_pos e4]
   exact drop00_p h ht hq hab ha hb
  ·have m := mb _ (hdN_mem (n := 0) hb)
   have lo := TT_thr.lo _ m
   have e4 : ¬ tailOf f (getT f t).pr.toNat = (t : Int) := fun e => ntb (by
    have hm := laN_mem (p := t) hb
    have e2 : laN b t = t := by rw [hL'] at e; exact_mod_cast e
    rw [e2] at hm; exact hm)
   rw [if_neg (show ¬ (getT f t).nx = 0 by omega), if_neg e4]
   have k := drop01_p h ht hq hab ha hb (rfl : hdN b 0 = _)
   rw [show (getT f t).nx.toNat = hdN b 0 by omega]
   exact k
 ·have m := ma _ (laN_mem (p := 0) ha)
  have lo := TT_thr.lo _ m
  have e2 : ¬ headOf f (getT f t).pr.toNat = (t : Int) := fun e => nta (by
   have hm := hdN_mem (n := t) ha
   have e2 : hdN a t = t := by rw [hH'] at e; exact_mod_cast e
   rw [e2] at hm; exact hm)
  rw [if_neg (show ¬ (getT f t).pv = 0 by omega), if_neg e2, show (getT f t).pv.toNat = laN a 0 by omega]
  by_cases hb : b = []
  ·have e3 : (getT f t).nx = 0 := by rw [enx, hb]; rfl
   have e4 : tailOf f (getT f t).pr.toNat = (t : Int) := by rw [hL', hb]; rfl
   rw [if_pos e3, if_pos e4]
   exact drop10_p h ht hq hab ha (rfl : laN a 0 = _) hb
  ·have m := mb _ (hdN_mem (n := 0) hb)
   have lo := TT_thr.lo _ m
   have e4 : ¬ tailOf f (getT f t).pr.toNat = (t : Int) := fun e => ntb (by
    have hm := laN_mem (p := t) hb
    have e2 : laN b t = t := by rw [hL'] at e; exact_mod_cast e
    rw [e2] at hm; exact hm)
   rw [if_neg (show ¬ (getT f t).nx = 0 by omega), if_neg e4]
   have k := drop11_p h ht hq hab ha (rfl : laN a 0 = _) hb (rfl : hdN b 0 = _)
   rw [show (getT f t).nx.toNat = hdN b 0 by omega]
   exact k
end Go.Ev.X
end
