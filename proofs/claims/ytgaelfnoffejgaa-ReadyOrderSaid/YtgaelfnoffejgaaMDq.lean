/-
 Contracts of dropping (the program).
-/
import Derived.Test.YtgaelfnoffejgaaMPp
set_option linter.unusedSimpArgs false
set_option linter.unusedVariables false
set_option maxRecDepth 100000
noncomputable section
namespace Go.Ev.X
open Go Go.Ev Go.Proofs
variable {f : Nat → Int} {Q : Nat → List Nat} {t : Nat}
theorem thV_set {t u : Nat} (h : t = u ∨ Apart t u) (f : Nat → Int) (v x : TV) : thV x (regs (setT f t v) u) = thV x (regs f u) := by
 have e : ∀ j, j < 16 → regs (setT f t v) u j = regs f u j := fun j hj => setT_other f v (by unfold Apart at h; omega)
 unfold thV
 rw [e 0 (by omega), e 1 (by omega), e 2 (by omega), e 3 (by omega), e 4 (by omega), e 5 (by omega), e 6 (by omega), e 7 (by omega), e 8 (by omega), e 9 (by omega), e 10 (by omega), e 11 (by omega), e 12 (by omega), e 13 (by omega), e 14 (by omega), e 15 (by omega)]
theorem TT_ap {t u : Nat} (ht : TT t) (hu : TT u) : t = u ∨ Apart t u := by
 by_cases e : t = u
 ·exact .inl e
 ·exact .inr (TT_thr.ap t u ht hu e)
def drop00_p_vs (f : Nat → Int) (t : Nat) (ks : Nat → Int) : Nat → Int := fun i => match i / 100 with
 | 0 => (t : Int)
 | 1 => fldT (getT f t) (regs f t) (i % 100)
 | 2 => if i % 100 = 0 then headOf f (getT f t).pr.toNat else tailOf f (getT f t).pr.toNat
 | 90 => ks (i % 100)
 | _ => 0
def drop00_p_rows (f : Nat → Int) (t : Nat) : Nat → Nat → Int := fun q => match q with
 | 0 => f
 | 1 => f
 | 2 => f
 | 3 => setT f t { getT f t with q := false, pv := 0, nx := 0 }
 | 4 => setQ (setT f t { getT f t with q := false, pv := 0, nx := 0 }) (getT f t).pr.toNat ((getT f t).nx) ((getT f t).pv)
 | _ => f
theorem drop00_p_run : runX cx0 cP [⟨13, [(.si .i64 (.v 1))], 1, (.tup [(tD 100), (.i .i64 0)]), (.v 9000)⟩,
 ⟨32, [(.si .i64 (.v 101))], 2, (.tup [(.si .i64 (.v 200)), (.si .i64 (.v 201))]), (.v 9001)⟩,
 ⟨28, [(.si .i64 (.v 1)), (tA 100 (sv 100) (sv 101) (sv 102) (.b false) (.i .i64 0) (.i .i64 0) (sv 106) (sv 107) (tv 108) (tv 109) (sv 110) (sv 111) (sv 112) (sv 113))], 3, (.i .i64 0), (.v 9002)⟩,
 ⟨36, [(.si .i64 (.v 101)), (.si .i64 (.v 105)), (.si .i64 (.v 104))], 4, (.tup []), (.v 9003)⟩]
 [] 12 [.si .i64 (.v 1)] ⟨[((.cmp .eql (.v 103) (.lit 1)), true), ((.cmp .eql (.v 200) (.v 1)), true), ((.cmp .eql (.v 201) (.v 1)), true), ((.cmp .neq (.v 104) (.lit 0)), false), ((.cmp .neq (.v 105) (.lit 0)), false)], []⟩ (.i .i64 0) 4 s4 = 0 := by decide +kernel
theorem drop00_p {Q : Nat → List Nat} {f : Nat → Int} {t : Nat} (h : QInv TT f Q) (ht : TT t) (hq : (getT f t).q = true) {a b : List Nat} (hab : Q (getT f t).pr.toNat = a ++ t :: b) (ha : a = []) (hb : b = [])  : MemB PP cP 130 12 [.int .i64 t] (f) (.int .i64 0) (setQ (setT f t { getT f t with q := false, pv := 0, nx := 0 }) (getT f t).pr.toNat ((getT f t).nx) ((getT f t).pv)) := by
 obtain ⟨hp, hpe⟩ := pr_nat h ht
 have hv := getT_right (h.thr t ht)
 have htl := TT_thr.lo t ht
 have hth := TT_thr.hi t ht
 have hw := q_w64 TT_thr h hp
 have hnd := h.nd _ hp
 have hlk := h.lk _ hp
 have hH' := headOf_eq TT_thr h hp
 have hL' := tailOf_eq TT_thr h hp
 have hlt := hdN_lt TT_thr h hp
 have llt := laN_lt TT_thr h hp
 rw [hab] at hnd hlk hH' hL' hlt llt
 rw [hdN_app] at hH' hlt
 rw [laN_app] at hL' llt
 obtain ⟨na, nb, nab⟩ := List.nodup_append.1 hnd
 have nb' := List.nodup_cons.1 nb
 have nta : t ∉ a := fun hx => nab t hx t (by simp) rfl
 have ntb : t ∉ b := nb'.1
 obtain ⟨lka, lkt⟩ := Lk_app.1 hlk
 obtain ⟨epv, enx, lkb⟩ := lkt
 have ma : ∀ u, u ∈ a → TT u := fun u hu => (h.el _ u hp (by rw [hab]; simp [hu])).1
 have mb : ∀ u, u ∈ b → TT u := fun u hu => (h.el _ u hp (by rw [hab]; simp [hu])).1
 subst ha
 have epv : (getT f t).pv = 0 := epv
 have hH : headOf f (getT f t).pr.toNat = (t : Int) := hH'
 subst hb
 have enx : (getT f t).nx = 0 := enx
 have hL : tailOf f (getT f t).pr.toNat = (t : Int) := hL'
 have hv3 : TV.Right { getT f t with q := false, pv := 0, nx := 0 } := right_with hv false (by omega) (by omega)
 obtain ⟨k0, ⟨p0, uk0⟩, c0⟩ := memb1 (thr_p ht (h.thr t ht))
 obtain ⟨k1, ⟨p1, uk1⟩, c1⟩ := ends_p hp hw.1
 obtain ⟨k2, ⟨p2, uk2⟩, c2⟩ := (show MemB PP cP _ _ [.int .i64 t, thV { getT f t with q := false, pv := 0, nx := 0 } (regs f t)] f (.int .i64 0) (setT f t { getT f t with q := false, pv := 0, nx := 0 }) by have k := memb1 (sth_p (f := f) ht hv3); exact k)
 obtain ⟨k3, ⟨p3, uk3⟩, c3⟩ := setEnds_p (f := setT f t { getT f t with q := false, pv := 0, nx := 0 }) (h := (getT f t).nx) (l := (getT f t).pv) hp (hv.nx) (hv.pv) (by rw [setT_other _ _ (by omega)]; exact hw.2.1) (by rw [setT_other _ _ (by omega)]; exact hw.2.2)
 exact ⟨((((0 + k0) + k1) + k2) + k3), ⟨by omega, by omega⟩, memC_x hC0 (by decide) drop00_p_run rfl (drop00_p_vs f t (ksL [k0, k1, k2, k3])) (drop00_p_rows f t) fun st => ⟨(stp_add (k := (((0 + k0) + k1) + k2)) (m := k3) (stp_add (k := ((0 + k0) + k1)) (m := k2) (stp_add (k := (0 + k0)) (m := k1) (stp_add (k := (0 : Nat)) (m := k0) rfl rfl p0) rfl p1) rfl p2) rfl p3), fa_list ⟨(sbq rfl).trans hq, f_eq hH, f_eq hL, f_nen epv, f_nen enx, trivial⟩ trivial,
  ⟨ent_y c0 p0 rfl (fun ρ => rfl) (fun ρ => tupT thA),
   ent_y c1 p1 rfl (fun ρ => arg1 (vsi hpe.symm)) (fun ρ => rfl),
   ent_y c2 p2 rfl (fun ρ => arg2 rfl (thG rfl rfl rfl rfl rfl rfl rfl rfl (vsb (sbq rfl)) (vsb (sbq rfl)) rfl rfl rfl rfl rfl rfl rfl rfl rfl rfl rfl rfl rfl rfl rfl rfl rfl rfl rfl rfl)) (fun ρ => rfl),
   ent_y c3 p3 rfl (fun ρ => arg3 (vsi hpe.symm) rfl rfl) (fun ρ => rfl),
   trivial⟩,
  ps_list trivial, fun ρ => rfl, fun ρ => rfl⟩⟩
def drop01_p_vs (f : Nat → Int) (t : Nat) (x : Nat) (ks : Nat → Int) : Nat → Int := fun i => match i / 100 with
 | 0 => (t : Int)
 | 1 => fldT (getT f t) (regs f t) (i % 100)
 | 2 => if i % 100 = 0 then headOf f (getT f t).pr.toNat else tailOf f (getT f t).pr.toNat
 | 3 => fldT (getT f x) (regs f x) (i % 100)
 | 90 => ks (i % 100)
 | _ => 0
def drop01_p_rows (f : Nat → Int) (t : Nat) (x : Nat) : Nat → Nat → Int := fun q => match q with
 | 0 => f
 | 1 => f
 | 2 => f
 | 3 => f
 | 4 => setT f x { getT f x with pv := (getT f t).pv }
 | 5 => setT (setT f x { getT f x with pv := (getT f t).pv }) t { getT f t with q := false, pv := 0, nx := 0 }
 | 6 => setQ (setT (setT f x { getT f x with pv := (getT f t).pv }) t { getT f t with q := false, pv := 0, nx := 0 }) (getT f t).pr.toNat ((getT f t).nx) (tailOf f (getT f t).pr.toNat)
 | _ => f
theorem drop01_p_run : runX cx0 cP [⟨13, [(.si .i64 (.v 1))], 1, (.tup [(tD 100), (.i .i64 0)]), (.v 9000)⟩,
 ⟨32, [(.si .i64 (.v 101))], 2, (.tup [(.si .i64 (.v 200)), (.si .i64 (.v 201))]), (.v 9001)⟩,
 ⟨13, [(.si .i64 (.v 105))], 3, (.tup [(tD 300), (.i .i64 0)]), (.v 9002)⟩,
 ⟨28, [(.si .i64 (.v 105)), (tA 300 (sv 300) (sv 301) (sv 302) (tv 303) (sv 104) (sv 305) (sv 306) (sv 307) (tv 308) (tv 309) (sv 310) (sv 311) (sv 312) (sv 313))], 4, (.i .i64 0), (.v 9003)⟩,
 ⟨28, [(.si .i64 (.v 1)), (tA 100 (sv 100) (sv 101) (sv 102) (.b false) (.i .i64 0) (.i .i64 0) (sv 106) (sv 107) (tv 108) (tv 109) (sv 110) (sv 111) (sv 112) (sv 113))], 5, (.i .i64 0), (.v 9004)⟩,
 ⟨36, [(.si .i64 (.v 101)), (.si .i64 (.v 105)), (.si .i64 (.v 201))], 6, (.tup []), (.v 9005)⟩]
 [] 12 [.si .i64 (.v 1)] ⟨[((.cmp .eql (.v 103) (.lit 1)), true), ((.cmp .eql (.v 200) (.v 1)), true), ((.cmp .eql (.v 201) (.v 1)), false), ((.cmp .neq (.v 104) (.lit 0)), false), ((.cmp .neq (.v 105) (.lit 0)), true)], []⟩ (.i .i64 0) 6 s6 = 0 := by decide +kernel
theorem drop01_p {Q : Nat → List Nat} {f : Nat → Int} {t : Nat} (h : QInv TT f Q) (ht : TT t) (hq : (getT f t).q = true) {a b : List Nat} (hab : Q (getT f t).pr.toNat = a ++ t :: b) (ha : a = []) {x : Nat} (hb : b ≠ []) (hxb : hdN b 0 = x)  : MemB PP cP 130 12 [.int .i64 t] (f) (.int .i64 0) (setQ (setT (setT f x { getT f x with pv := (getT f t).pv }) t { getT f t with q := false, pv := 0, nx := 0 }) (getT f t).pr.toNat ((getT f t).nx) (tailOf f (getT f t).pr.toNat)) := by
 obtain ⟨hp, hpe⟩ := pr_nat h ht
 have hv := getT_right (h.thr t ht)
 have htl := TT_thr.lo t ht
 have hth := TT_thr.hi t ht
 have hw := q_w64 TT_thr h hp
 have hnd := h.nd _ hp
 have hlk := h.lk _ hp
 have hH' := headOf_eq TT_thr h hp
 have hL' := tailOf_eq TT_thr h hp
 have hlt := hdN_lt TT_thr h hp
 have llt := laN_lt TT_thr h hp
 rw [hab] at hnd hlk hH' hL' hlt llt
 rw [hdN_app] at hH' hlt
 rw [laN_app] at hL' llt
 obtain ⟨na, nb, nab⟩ := List.nodup_append.1 hnd
 have nb' := List.nodup_cons.1 nb
 have nta : t ∉ a := fun hx => nab t hx t (by simp) rfl
 have ntb : t ∉ b := nb'.1
 obtain ⟨lka, lkt⟩ := Lk_app.1 hlk
 obtain ⟨epv, enx, lkb⟩ := lkt
 have ma : ∀ u, u ∈ a → TT u := fun u hu => (h.el _ u hp (by rw [hab]; simp [hu])).1
 have mb : ∀ u, u ∈ b → TT u := fun u hu => (h.el _ u hp (by rw [hab]; simp [hu])).1
 subst ha
 have epv : (getT f t).pv = 0 := epv
 have hH : headOf f (getT f t).pr.toNat = (t : Int) := hH'
 have hx : TT x := hxb ▸ mb _ (hdN_mem (n := 0) hb)
 have hxt : x ≠ t := fun e => ntb (by rw [← e, ← hxb]; exact hdN_mem (n := 0) hb)
 have hxl := TT_thr.lo x hx
 have hxh := TT_thr.hi x hx
 rw [hxb] at enx
 have hL : tailOf f (getT f t).pr.toNat ≠ (t : Int) := fun e => ntb (by
  have hm := laN_mem (p := t) hb
  have e2 := hL'.symm.trans e
  have e3 : laN b t = t := by exact_mod_cast e2
  rw [e3] at hm; exact hm)
 have hnn : (getT f t).nx ≠ 0 := by omega
 have hvx := getT_right (h.thr x hx)
 have hv2 : TV.Right { getT f x with pv := (getT f t).pv } := ⟨hvx.st, hvx.pr, hvx.sl, hv.pv, hvx.nx, hvx.bl, hvx.bd, hvx.bo, hvx.ha, hvx.fk, hvx.fa⟩
 have hv3 : TV.Right { getT f t with q := false, pv := 0, nx := 0 } := right_with hv false (by omega) (by omega)
 obtain ⟨k0, ⟨p0, uk0⟩, c0⟩ := memb1 (thr_p ht (h.thr t ht))
 obtain ⟨k1, ⟨p1, uk1⟩, c1⟩ := ends_p hp hw.1
 obtain ⟨k2, ⟨p2, uk2⟩, c2⟩ := memb1 (thr_p (f := f) hx (h.thr x hx))
 obtain ⟨k3, ⟨p3, uk3⟩, c3⟩ := memb1 (sth_p (f := f) hx hv2)
 obtain ⟨k4, ⟨p4, uk4⟩, c4⟩ := (show MemB PP cP _ _ [.int .i64 t, thV { getT f t with q := false, pv := 0, nx := 0 } (regs f t)] (setT f x { getT f x with pv := (getT f t).pv }) (.int .i64 0) (setT (setT f x { getT f x with pv := (getT f t).pv }) t { getT f t with q := false, pv := 0, nx := 0 }) by have k := memb1 (sth_p (f := (setT f x { getT f x with pv := (getT f t).pv })) ht hv3); rw [thV_set (TT_ap hx ht)] at k; exact k)
 obtain ⟨k5, ⟨p5, uk5⟩, c5⟩ := setEnds_p (f := setT (setT f x { getT f x with pv := (getT f t).pv }) t { getT f t with q := false, pv := 0, nx := 0 }) (h := (getT f t).nx) (l := tailOf f (getT f t).pr.toNat) hp (hv.nx) (by omega) (by rw [setT_other _ _ (by omega), setT_other _ _ (by omega)]; exact hw.2.1) (by rw [setT_other _ _ (by omega), setT_other _ _ (by omega)]; exact hw.2.2)
 exact ⟨((((((0 + k0) + k1) + k2) + k3) + k4) + k5), ⟨by omega, by omega⟩, memC_x hC0 (by decide) drop01_p_run rfl (drop01_p_vs f t x (ksL [k0, k1, k2, k3, k4, k5])) (drop01_p_rows f t x) fun st => ⟨(stp_add (k := (((((0 + k0) + k1) + k2) + k3) + k4)) (m := k5) (stp_add (k := ((((0 + k0) + k1) + k2) + k3)) (m := k4) (stp_add (k := (((0 + k0) + k1) + k2)) (m := k3) (stp_add (k := ((0 + k0) + k1)) (m := k2) (stp_add (k := (0 + k0)) (m := k1) (stp_add (k := (0 : Nat)) (m := k0) rfl rfl p0) rfl p1) rfl p2) rfl p3) rfl p4) rfl p5), fa_list ⟨(sbq rfl).trans hq, f_eq hH, f_eqn hL, f_nen epv, f_ne hnn, trivial⟩ trivial,
  ⟨ent_y c0 p0 rfl (fun ρ => rfl) (fun ρ => tupT thA),
   ent_y c1 p1 rfl (fun ρ => arg1 (vsi hpe.symm)) (fun ρ => rfl),
   ent_y c2 p2 rfl (fun ρ => arg1 (vsi enx)) (fun ρ => tupT thA),
   ent_y c3 p3 rfl (fun ρ => arg2 (vsi enx) thA) (fun ρ => rfl),
   ent_y c4 p4 rfl (fun ρ => arg2 rfl (thG rfl rfl rfl rfl rfl rfl rfl rfl (vsb (sbq rfl)) (vsb (sbq rfl)) rfl rfl rfl rfl rfl rfl rfl rfl rfl rfl rfl rfl rfl rfl rfl rfl rfl rfl rfl rfl)) (fun ρ => rfl),
   ent_y c5 p5 rfl (fun ρ => arg3 (vsi hpe.symm) rfl rfl) (fun ρ => rfl),
   trivial⟩,
  ps_list trivial, fun ρ => rfl, fun ρ => rfl⟩⟩
def drop10_p_vs (f : Nat → Int) (t : Nat) (u : Nat) (ks : Nat → Int) : Nat → Int := fun i => match i / 100 with
 | 0 => (t : Int)
 | 1 => fldT (getT f t) (regs f t) (i % 100)
 | 2 => if i % 100 = 0 then headOf f (getT f t).pr.toNat else tailOf f (getT f t).pr.toNat
 | 3 => fldT (getT (f) u) (regs (f) u) (i % 100)
 | 90 => ks (i % 100)
 | _ => 0
def drop10_p_rows (f : Nat → Int) (t : Nat) (u : Nat) : Nat → Nat → Int := fun q => match q with
 | 0 => f
 | 1 => f
 | 2 => f
 | 3 => f
 | 4 => setT f u { getT f u with nx := (getT f t).nx }
 | 5 => setT (setT f u { getT f u with nx := (getT f t).nx }) t { getT f t with q := false, pv := 0, nx := 0 }
 | 6 => setQ (setT (setT f u { getT f u with nx := (getT f t).nx }) t { getT f t with q := false, pv := 0, nx := 0 }) (getT f t).pr.toNat (headOf f (getT f t).pr.toNat) ((getT f t).pv)
 | _ => f
theorem drop10_p_run : runX cx0 cP [⟨13, [(.si .i64 (.v 1))], 1, (.tup [(tD 100), (.i .i64 0)]), (.v 9000)⟩,
 ⟨32, [(.si .i64 (.v 101))], 2, (.tup [(.si .i64 (.v 200)), (.si .i64 (.v 201))]), (.v 9001)⟩,
 ⟨13, [(.si .i64 (.v 104))], 3, (.tup [(tD 300), (.i .i64 0)]), (.v 9002)⟩,
 ⟨28, [(.si .i64 (.v 104)), (tA 300 (sv 300) (sv 301) (sv 302) (tv 303) (sv 304) (sv 105) (sv 306) (sv 307) (tv 308) (tv 309) (sv 310) (sv 311) (sv 312) (sv 313))], 4, (.i .i64 0), (.v 9003)⟩,
 ⟨28, [(.si .i64 (.v 1)), (tA 100 (sv 100) (sv 101) (sv 102) (.b false) (.i .i64 0) (.i .i64 0) (sv 106) (sv 107) (tv 108) (tv 109) (sv 110) (sv 111) (sv 112) (sv 113))], 5, (.i .i64 0), (.v 9004)⟩,
 ⟨36, [(.si .i64 (.v 101)), (.si .i64 (.v 200)), (.si .i64 (.v 104))], 6, (.tup []), (.v 9005)⟩]
 [] 12 [.si .i64 (.v 1)] ⟨[((.cmp .eql (.v 103) (.lit 1)), true), ((.cmp .eql (.v 200) (.v 1)), false), ((.cmp .eql (.v 201) (.v 1)), true), ((.cmp .neq (.v 104) (.lit 0)), true), ((.cmp .neq (.v 105) (.lit 0)), false)], []⟩ (.i .i64 0) 6 s6 = 0 := by decide +kernel
theorem drop10_p {Q : Nat → List Nat} {f : Nat → Int} {t : Nat} (h : QInv TT f Q) (ht : TT t) (hq : (getT f t).q = true) {a b : List Nat} (hab : Q (getT f t).pr.toNat = a ++ t :: b) {u : Nat} (ha : a ≠ []) (hua : laN a 0 = u) (hb : b = [])  : MemB PP cP 130 12 [.int .i64 t] (f) (.int .i64 0) (setQ (setT (setT f u { getT f u with nx := (getT f t).nx }) t { getT f t with q := false, pv := 0, nx := 0 }) (getT f t).pr.toNat (headOf f (getT f t).pr.toNat) ((getT f t).pv)) := by
 obtain ⟨hp, hpe⟩ := pr_nat h ht
 have hv := getT_right (h.thr t ht)
 have htl := TT_thr.lo t ht
 have hth := TT_thr.hi t ht
 have hw := q_w64 TT_thr h hp
 have hnd := h.nd _ hp
 have hlk := h.lk _ hp
 have hH' := headOf_eq TT_thr h hp
 have hL' := tailOf_eq TT_thr h hp
 have hlt := hdN_lt TT_thr h hp
 have llt := laN_lt TT_thr h hp
 rw [hab] at hnd hlk hH' hL' hlt llt
 rw [hdN_app] at hH' hlt
 rw [laN_app] at hL' llt
 obtain ⟨na, nb, nab⟩ := List.nodup_append.1 hnd
 have nb' := List.nodup_cons.1 nb
 have nta : t ∉ a := fun hx => nab t hx t (by simp) rfl
 have ntb : t ∉ b := nb'.1
 obtain ⟨lka, lkt⟩ := Lk_app.1 hlk
 obtain ⟨epv, enx, lkb⟩ := lkt
 have ma : ∀ u, u ∈ a → TT u := fun u hu => (h.el _ u hp (by rw [hab]; simp [hu])).1
 have mb : ∀ u, u ∈ b → TT u := fun u hu => (h.el _ u hp (by rw [hab]; simp [hu])).1
 have hu : TT u := hua ▸ ma _ (laN_mem (p := 0) ha)
 have hut : u ≠ t := fun e => nta (by rw [← e, ← hua]; exact laN_mem (p := 0) ha)
 have hul := TT_thr.lo u hu
 have huh := TT_thr.hi u hu
 rw [hua] at epv
 have hH : headOf f (getT f t).pr.toNat ≠ (t : Int) := fun e => nta (by
  have hm := hdN_mem (n := t) ha
  have e2 : hdN a (hdN (t :: b) 0) = t := by rw [hH'] at e; exact_mod_cast e
  rw [show hdN (t :: b) 0 = t from rfl] at e2
  rw [e2] at hm; exact hm)
 have hpn : (getT f t).pv ≠ 0 := by omega
 subst hb
 have enx : (getT f t).nx = 0 := enx
 have hL : tailOf f (getT f t).pr.toNat = (t : Int) := hL'
 have hvu := getT_right (h.thr u hu)
 have hv1 : TV.Right { getT f u with nx := (getT f t).nx } := ⟨hvu.st, hvu.pr, hvu.sl, hvu.pv, hv.nx, hvu.bl, hvu.bd, hvu.bo, hvu.ha, hvu.fk, hvu.fa⟩
 have w1 := two_setT TT_thr h.thr hu hv1
 have hv3 : TV.Right { getT f t with q := false, pv := 0, nx := 0 } := right_with hv false (by omega) (by omega)
 obtain ⟨k0, ⟨p0, uk0⟩, c0⟩ := memb1 (thr_p ht (h.thr t ht))
 obtain ⟨k1, ⟨p1, uk1⟩, c1⟩ := ends_p hp hw.1
 obtain ⟨k2, ⟨p2, uk2⟩, c2⟩ := memb1 (thr_p (f := f) hu (h.thr u hu))
 obtain ⟨k3, ⟨p3, uk3⟩, c3⟩ := memb1 (sth_p (f := f) hu hv1)
 obtain ⟨k4, ⟨p4, uk4⟩, c4⟩ := (show MemB PP cP _ _ [.int .i64 t, thV { getT f t with q := false, pv := 0, nx := 0 } (regs f t)] (setT f u { getT f u with nx := (getT f t).nx }) (.int .i64 0) (setT (setT f u { getT f u with nx := (getT f t).nx }) t { getT f t with q := false, pv := 0, nx := 0 }) by have k := memb1 (sth_p (f := (setT f u { getT f u with nx := (getT f t).nx })) ht hv3); rw [thV_set (TT_ap hu ht)] at k; exact k)
 obtain ⟨k5, ⟨p5, uk5⟩, c5⟩ := setEnds_p (f := setT (setT f u { getT f u with nx := (getT f t).nx }) t { getT f t with q := false, pv := 0, nx := 0 }) (h := headOf f (getT f t).pr.toNat) (l := (getT f t).pv) hp (by omega) (hv.pv) (by rw [setT_other _ _ (by omega), setT_other _ _ (by omega)]; exact hw.2.1) (by rw [setT_other _ _ (by omega), setT_other _ _ (by omega)]; exact hw.2.2)
 exact ⟨((((((0 + k0) + k1) + k2) + k3) + k4) + k5), ⟨by omega, by omega⟩, memC_x hC0 (by decide) drop10_p_run rfl (drop10_p_vs f t u (ksL [k0, k1, k2, k3, k4, k5])) (drop10_p_rows f t u) fun st => ⟨(stp_add (k := (((((0 + k0) + k1) + k2) + k3) + k4)) (m := k5) (stp_add (k := ((((0 + k0) + k1) + k2) + k3)) (m := k4) (stp_add (k := (((0 + k0) + k1) + k2)) (m := k3) (stp_add (k := ((0 + k0) + k1)) (m := k2) (stp_add (k := (0 + k0)) (m := k1) (stp_add (k := (0 : Nat)) (m := k0) rfl rfl p0) rfl p1) rfl p2) rfl p3) rfl p4) rfl p5), fa_list ⟨(sbq rfl).trans hq, f_eqn hH, f_eq hL, f_ne hpn, f_nen enx, trivial⟩ trivial,
  ⟨ent_y c0 p0 rfl (fun ρ => rfl) (fun ρ => tupT thA),
   ent_y c1 p1 rfl (fun ρ => arg1 (vsi hpe.symm)) (fun ρ => rfl),
   ent_y c2 p2 rfl (fun ρ => arg1 (vsi epv)) (fun ρ => tupT thA),
   ent_y c3 p3 rfl (fun ρ => arg2 (vsi epv) thA) (fun ρ => rfl),
   ent_y c4 p4 rfl (fun ρ => arg2 rfl (thG rfl rfl rfl rfl rfl rfl rfl rfl (vsb (sbq rfl)) (vsb (sbq rfl)) rfl rfl rfl rfl rfl rfl rfl rfl rfl rfl rfl rfl rfl rfl rfl rfl rfl rfl rfl rfl)) (fun ρ => rfl),
   ent_y c5 p5 rfl (fun ρ => arg3 (vsi hpe.symm) rfl rfl) (fun ρ => rfl),
   trivial⟩,
  ps_list trivial, fun ρ => rfl, fun ρ => rfl⟩⟩
def drop11_p_vs (f : Nat → Int) (t : Nat) (u : Nat) (x : Nat) (ks : Nat → Int) : Nat → Int := fun i => match i / 100 with
 | 0 => (t : Int)
 | 1 => fldT (getT f t) (regs f t) (i % 100)
 | 2 => if i % 100 = 0 then headOf f (getT f t).pr.toNat else tailOf f (getT f t).pr.toNat
 | 3 => fldT (getT (f) u) (regs (f) u) (i % 100)
 | 5 => fldT (getT (setT f u { getT f u with nx := (getT f t).nx }) x) (regs (setT f u { getT f u with nx := (getT f t).nx }) x) (i % 100)
 | 90 => ks (i % 100)
 | _ => 0
def drop11_p_rows (f : Nat → Int) (t : Nat) (u : Nat) (x : Nat) : Nat → Nat → Int := fun q => match q with
 | 0 => f
 | 1 => f
 | 2 => f
 | 3 => f
 | 4 => setT f u { getT f u with nx := (getT f t).nx }
 | 5 => (setT f u { getT f u with nx := (getT f t).nx })
 | 6 => setT (setT f u { getT f u with nx := (getT f t).nx }) x { getT (setT f u { getT f u with nx := (getT f t).nx }) x with pv := (getT f t).pv }
 | 7 => setT (setT (setT f u { getT f u with nx := (getT f t).nx }) x { getT (setT f u { getT f u with nx := (getT f t).nx }) x with pv := (getT f t).pv }) t { getT f t with q := false, pv := 0, nx := 0 }
 | 8 => setQ (setT (setT (setT f u { getT f u with nx := (getT f t).nx }) x { getT (setT f u { getT f u with nx := (getT f t).nx }) x with pv := (getT f t).pv }) t { getT f t with q := false, pv := 0, nx := 0 }) (getT f t).pr.toNat (headOf f (getT f t).pr.toNat) (tailOf f (getT f t).pr.toNat)
 | _ => f
theorem drop11_p_run : runX cx0 cP [⟨13, [(.si .i64 (.v 1))], 1, (.tup [(tD 100), (.i .i64 0)]), (.v 9000)⟩,
 ⟨32, [(.si .i64 (.v 101))], 2, (.tup [(.si .i64 (.v 200)), (.si .i64 (.v 201))]), (.v 9001)⟩,
 ⟨13, [(.si .i64 (.v 104))], 3, (.tup [(tD 300), (.i .i64 0)]), (.v 9002)⟩,
 ⟨28, [(.si .i64 (.v 104)), (tA 300 (sv 300) (sv 301) (sv 302) (tv 303) (sv 304) (sv 105) (sv 306) (sv 307) (tv 308) (tv 309) (sv 310) (sv 311) (sv 312) (sv 313))], 4, (.i .i64 0), (.v 9003)⟩,
 ⟨13, [(.si .i64 (.v 105))], 5, (.tup [(tD 500), (.i .i64 0)]), (.v 9004)⟩,
 ⟨28, [(.si .i64 (.v 105)), (tA 500 (sv 500) (sv 501) (sv 502) (tv 503) (sv 104) (sv 505) (sv 506) (sv 507) (tv 508) (tv 509) (sv 510) (sv 511) (sv 512) (sv 513))], 6, (.i .i64 0), (.v 9005)⟩,
 ⟨28, [(.si .i64 (.v 1)), (tA 100 (sv 100) (sv 101) (sv 102) (.b false) (.i .i64 0) (.i .i64 0) (sv 106) (sv 107) (tv 108) (tv 109) (sv 110) (sv 111) (sv 112) (sv 113))], 7, (.i .i64 0), (.v 9006)⟩,
 ⟨36, [(.si .i64 (.v 101)), (.si .i64 (.v 200)), (.si .i64 (.v 201))], 8, (.tup []), (.v 9007)⟩]
 [] 12 [.si .i64 (.v 1)] ⟨[((.cmp .eql (.v 103) (.lit 1)), true), ((.cmp .eql (.v 200) (.v 1)), false), ((.cmp .eql (.v 201) (.v 1)), false), ((.cmp .neq (.v 104) (.lit 0)), true), ((.cmp .neq (.v 105) (.lit 0)), true)], []⟩ (.i .i64 0) 8 s8 = 0 := by decide +kernel
theorem drop11_p {Q : Nat → List Nat} {f : Nat → Int} {t : Nat} (h : QInv TT f Q) (ht : TT t) (hq : (getT f t).q = true) {a b : List Nat} (hab : Q (getT f t).pr.toNat = a ++ t :: b) {u : Nat} (ha : a ≠ []) (hua : laN a 0 = u) {x : Nat} (hb : b ≠ []) (hxb : hdN b 0 = x)  : MemB PP cP 130 12 [.int .i64 t] (f) (.int .i64 0) (setQ (setT (setT (setT f u { getT f u with nx := (getT f t).nx }) x { getT (setT f u { getT f u with nx := (getT f t).nx }) x with pv := (getT f t).pv }) t { getT f t with q := false, pv := 0, nx := 0 }) (getT f t).pr.toNat (headOf f (getT f t).pr.toNat) (tailOf f (getT f t).pr.toNat)) := by
 obtain ⟨hp, hpe⟩ := pr_nat h ht
 have hv := getT_right (h.thr t ht)
 have htl := TT_thr.lo t ht
 have hth := TT_thr.hi t ht
 have hw := q_w64 TT_thr h hp
 have hnd := h.nd _ hp
 have hlk := h.lk _ hp
 have hH' := headOf_eq TT_thr h hp
 have hL' := tailOf_eq TT_thr h hp
 have hlt := hdN_lt TT_thr h hp
 have llt := laN_lt TT_thr h hp
 rw [hab] at hnd hlk hH' hL' hlt llt
 rw [hdN_app] at hH' hlt
 rw [laN_app] at hL' llt
 obtain ⟨na, nb, nab⟩ := List.nodup_append.1 hnd
 have nb' := List.nodup_cons.1 nb
 have nta : t ∉ a := fun hx => nab t hx t (by simp) rfl
 have ntb : t ∉ b := nb'.1
 obtain ⟨lka, lkt⟩ := Lk_app.1 hlk
 obtain ⟨epv, enx, lkb⟩ := lkt
 have ma : ∀ u, u ∈ a → TT u := fun u hu => (h.el _ u hp (by rw [hab]; simp [hu])).1
 have mb : ∀ u, u ∈ b → TT u := fun u hu => (h.el _ u hp (by rw [hab]; simp [hu])).1
 have hu : TT u := hua ▸ ma _ (laN_mem (p := 0) ha)
 have hut : u ≠ t := fun e => nta (by rw [← e, ← hua]; exact laN_mem (p := 0) ha)
 have hul := TT_thr.lo u hu
 have huh := TT_thr.hi u hu
 rw [hua] at epv
 have hH : headOf f (getT f t).pr.toNat ≠ (t : Int) := fun e => nta (by
  have hm := hdN_mem (n := t) ha
  have e2 : hdN a (hdN (t :: b) 0) = t := by rw [hH'] at e; exact_mod_cast e
  rw [show hdN (t :: b) 0 = t from rfl] at e2
  rw [e2] at hm; exact hm)
 have hpn : (getT f t).pv ≠ 0 := by omega
 have hx : TT x := hxb ▸ mb _ (hdN_mem (n := 0) hb)
 have hxt : x ≠ t := fun e => ntb (by rw [← e, ← hxb]; exact hdN_mem (n := 0) hb)
 have hxl := TT_thr.lo x hx
 have hxh := TT_thr.hi x hx
 rw [hxb] at enx
 have hL : tailOf f (getT f t).pr.toNat ≠ (t : Int) := fun e => ntb (by
  have hm := laN_mem (p := t) hb
  have e2 := hL'.symm.trans e
  have e3 : laN b t = t := by exact_mod_cast e2
  rw [e3] at hm; exact hm)
 have hnn : (getT f t).nx ≠ 0 := by omega
 have hvu := getT_right (h.thr u hu)
 have hv1 : TV.Right { getT f u with nx := (getT f t).nx } := ⟨hvu.st, hvu.pr, hvu.sl, hvu.pv, hv.nx, hvu.bl, hvu.bd, hvu.bo, hvu.ha, hvu.fk, hvu.fa⟩
 have w1 := two_setT TT_thr h.thr hu hv1
 have hvx := getT_right (w1.ri x hx)
 have hv2 : TV.Right { getT (setT f u { getT f u with nx := (getT f t).nx }) x with pv := (getT f t).pv } := ⟨hvx.st, hvx.pr, hvx.sl, hv.pv, hvx.nx, hvx.bl, hvx.bd, hvx.bo, hvx.ha, hvx.fk, hvx.fa⟩
 have hv3 : TV.Right { getT f t with q := false, pv := 0, nx := 0 } := right_with hv false (by omega) (by omega)
 obtain ⟨k0, ⟨p0, uk0⟩, c0⟩ := memb1 (thr_p ht (h.thr t ht))
 obtain ⟨k1, ⟨p1, uk1⟩, c1⟩ := ends_p hp hw.1
 obtain ⟨k2, ⟨p2, uk2⟩, c2⟩ := memb1 (thr_p (f := f) hu (h.thr u hu))
 obtain ⟨k3, ⟨p3, uk3⟩, c3⟩ := memb1 (sth_p (f := f) hu hv1)
 obtain ⟨k4, ⟨p4, uk4⟩, c4⟩ := memb1 (thr_p (f := (setT f u { getT f u with nx := (getT f t).nx })) hx (w1.ri x hx))
 obtain ⟨k5, ⟨p5, uk5⟩, c5⟩ := memb1 (sth_p (f := (setT f u { getT f u with nx := (getT f t).nx })) hx hv2)
 obtain ⟨k6, ⟨p6, uk6⟩, c6⟩ := (show MemB PP cP _ _ [.int .i64 t, thV { getT f t with q := false, pv := 0, nx := 0 } (regs f t)] (setT (setT f u { getT f u with nx := (getT f t).nx }) x { getT (setT f u { getT f u with nx := (getT f t).nx }) x with pv := (getT f t).pv }) (.int .i64 0) (setT (setT (setT f u { getT f u with nx := (getT f t).nx }) x { getT (setT f u { getT f u with nx := (getT f t).nx }) x with pv := (getT f t).pv }) t { getT f t with q := false, pv := 0, nx := 0 }) by have k := memb1 (sth_p (f := (setT (setT f u { getT f u with nx := (getT f t).nx }) x { getT (setT f u { getT f u with nx := (getT f t).nx }) x with pv := (getT f t).pv })) ht hv3); rw [thV_set (TT_ap hx ht), thV_set (TT_ap hu ht)] at k; exact k)
 obtain ⟨k7, ⟨p7, uk7⟩, c7⟩ := setEnds_p (f := setT (setT (setT f u { getT f u with nx := (getT f t).nx }) x { getT (setT f u { getT f u with nx := (getT f t).nx }) x with pv := (getT f t).pv }) t { getT f t with q := false, pv := 0, nx := 0 }) (h := headOf f (getT f t).pr.toNat) (l := tailOf f (getT f t).pr.toNat) hp (by omega) (by omega) (by rw [setT_other _ _ (by omega), setT_other _ _ (by omega), setT_other _ _ (by omega)]; exact hw.2.1) (by rw [setT_other _ _ (by omega), setT_other _ _ (by omega), setT_other _ _ (by omega)]; exact hw.2.2)
 exact ⟨((((((((0 + k0) + k1) + k2) + k3) + k4) + k5) + k6) + k7), ⟨by omega, by omega⟩, memC_x hC0 (by decide) drop11_p_run rfl (drop11_p_vs f t u x (ksL [k0, k1, k2, k3, k4, k5, k6, k7])) (drop11_p_rows f t u x) fun st => ⟨(stp_add (k := (((((((0 + k0) + k1) + k2) + k3) + k4) + k5) + k6)) (m := k7) (stp_add (k := ((((((0 + k0) + k1) + k2) + k3) + k4) + k5)) (m := k6) (stp_add (k := (((((0 + k0) + k1) + k2) + k3) + k4)) (m := k5) (stp_add (k := ((((0 + k0) + k1) + k2) + k3)) (m := k4) (stp_add (k := (((0 + k0) + k1) + k2)) (m := k3) (stp_add (k := ((0 + k0) + k1)) (m := k2) (stp_add (k := (0 + k0)) (m := k1) (stp_add (k := (0 : Nat)) (m := k0) rfl rfl p0) rfl p1) rfl p2) rfl p3) rfl p4) rfl p5) rfl p6) rfl p7), fa_list ⟨(sbq rfl).trans hq, f_eqn hH, f_eqn hL, f_ne hpn, f_ne hnn, trivial⟩ trivial,
  ⟨ent_y c0 p0 rfl (fun ρ => rfl) (fun ρ => tupT thA),
   ent_y c1 p1 rfl (fun ρ => arg1 (vsi hpe.symm)) (fun ρ => rfl),
   ent_y c2 p2 rfl (fun ρ => arg1 (vsi epv)) (fun ρ => tupT thA),
   ent_y c3 p3 rfl (fun ρ => arg2 (vsi epv) thA) (fun ρ => rfl),
   ent_y c4 p4 rfl (fun ρ => arg1 (vsi enx)) (fun ρ => tupT thA),
   ent_y c5 p5 rfl (fun ρ => arg2 (vsi enx) thA) (fun ρ => rfl),
   ent_y c6 p6 rfl (fun ρ => arg2 rfl (thG rfl rfl rfl rfl rfl rfl rfl rfl (vsb (sbq rfl)) (vsb (sbq rfl)) rfl rfl rfl rfl rfl rfl rfl rfl rfl rfl rfl rfl rfl rfl rfl rfl rfl rfl rfl rfl)) (fun ρ => rfl),
   ent_y c7 p7 rfl (fun ρ => arg3 (vsi hpe.symm) rfl rfl) (fun ρ => rfl),
   trivial⟩,
  ps_list trivial, fun ρ => rfl, fun ρ => rfl⟩⟩
end Go.Ev.X
end
/-
 Pushing and dropping, whole (the program).
-/
set_option linter.unusedSimpArgs false
set_option linter.unusedVariables false
set_option maxRecDepth 100000
noncomputable section
namespace Go.Ev.X
open Go Go.Ev Go.Proofs
variable {f : Nat → Int} {Q : Nat → List Nat} {t : Nat}
theorem push_cp (h : QInv TT f Q) (ht : TT t) (hq : (getT f t).q = false) : MemB PP cP 90 11 [.int .i64 t] f (.int .i64 0) (pushF f t) := by
 obtain ⟨hp, hpe⟩ := pr_nat h ht
 by_cases he : Q (getT f t).pr.toNat = []
 ·have k := push_e_p h ht hq he
  have hH : headOf f (getT f t).pr.toNat = 0 := by rw [headOf_eq TT_thr h hp, he]; rfl
  unfold pushF
  rw [if_pos hH]
  exact k
 ·have k := push_m_p h ht hq he (rfl : laN (Q (getT f t).pr.toNat) 0 = _)
  have hH : headOf f (getT f t).pr.toNat ≠ 0 := by
   have := TT_thr.lo _ (h.el _ _ hp (hdN_mem (n := 0) he)).1
   rw [headOf_eq TT_thr h hp]; omega
  unfold pushF
  rw [if_neg hH]
  unfold linkN
  rw [tailOf_eq TT_thr h hp, Int.toNat_natCast]
  exact k
theorem drop_cp (h : QInv TT f Q) (ht : TT t) (hq : (getT f t).q = true) : MemB PP cP 130 12 [.int .i64 t] f (.int .i64 0) (dropF f t) := by
 obtain ⟨hp, hpe⟩ := pr_nat h ht
 obtain ⟨a, b, hab⟩ := List.append_of_mem (h.off t ht hq)
 have hlk := h.lk _ hp
 have hnd := h.nd _ hp
 have hH' := headOf_eq TT_thr h hp
 have hL' := tailOf_eq TT_thr h hp
 rw [hab] at hlk hnd hH' hL'
 rw [hdN_app] at hH'
 rw [laN_app] at hL'
 obtain ⟨na, nb, nab⟩ := List.nodup_append.1 hnd
 have nb' := List.nodup_cons.1 nb
 have nta : t ∉ a := fun hx => nab t hx t (by simp) rfl
 have ntb : t ∉ b := nb'.1
 obtain ⟨lka, lkt⟩ := Lk_app.1 hlk
 obtain ⟨epv, enx, lkb⟩ := lkt
 have ma : ∀ u, u ∈ a → TT u := fun u hu => (h.el _ u hp (by rw [hab]; simp [hu])).1
 have mb : ∀ u, u ∈ b → TT u := fun u hu => (h.el _ u hp (by rw [hab]; simp [hu])).1
 unfold dropF drpB drpA linkN linkP
 by_cases ha : a = []
 ·have e1 : (getT f t).pv = 0 := by rw [epv, ha]; rfl
  have e2 : headOf f (getT f t).pr.toNat = (t : Int) := by rw [hH', ha]; rfl
  rw [if_pos e1, if_pos e2]
  by_cases hb : b = []
  ·have e3 : (getT f t).nx = 0 := by rw [enx, hb]; rfl
   have e4 : tailOf f (getT f t).pr.toNat = (t : Int) := by rw [hL', hb]; rfl
   rw [if_pos e3, if_pos e4]
   exact drop00_p h ht hq hab ha hb
  ·have m := mb _ (hdN_mem (n := 0) hb)
   have lo := TT_thr.lo _ m
   have e4 : ¬ tailOf f (getT f t).pr.toNat = (t : Int) := fun e => ntb (by
    have hm := laN_mem (p := t) hb
    have e2 : laN b t = t := by rw [hL'] at e; exact_mod_cast e
    rw [e2] at hm; exact hm)
   rw [if_neg (show ¬ (getT f t).nx = 0 by omega), if_neg e4]
   have k := drop01_p h ht hq hab ha hb (rfl : hdN b 0 = _)
   rw [show (getT f t).nx.toNat = hdN b 0 by omega]
   exact k
 ·have m := ma _ (laN_mem (p := 0) ha)
  have lo := TT_thr.lo _ m
  have e2 : ¬ headOf f (getT f t).pr.toNat = (t : Int) := fun e => nta (by
   have hm := hdN_mem (n := t) ha
   have e2 : hdN a t = t := by rw [hH'] at e; exact_mod_cast e
   rw [e2] at hm; exact hm)
  rw [if_neg (show ¬ (getT f t).pv = 0 by omega), if_neg e2, show (getT f t).pv.toNat = laN a 0 by omega]
  by_cases hb : b = []
  ·have e3 : (getT f t).nx = 0 := by rw [enx, hb]; rfl
   have e4 : tailOf f (getT f t).pr.toNat = (t : Int) := by rw [hL', hb]; rfl
   rw [if_pos e3, if_pos e4]
   exact drop10_p h ht hq hab ha (rfl : laN a 0 = _) hb
  ·have m := mb _ (hdN_mem (n := 0) hb)
   have lo := TT_thr.lo _ m
   have e4 : ¬ tailOf f (getT f t).pr.toNat = (t : Int) := fun e => ntb (by
    have hm := laN_mem (p := t) hb
    have e2 : laN b t = t := by rw [hL'] at e; exact_mod_cast e
    rw [e2] at hm; exact hm)
   rw [if_neg (show ¬ (getT f t).nx = 0 by omega), if_neg e4]
   have k := drop11_p h ht hq hab ha (rfl : laN a 0 = _) hb (rfl : hdN b 0 = _)
   rw [show (getT f t).nx.toNat = hdN b 0 by omega]
   exact k
end Go.Ev.X
end
