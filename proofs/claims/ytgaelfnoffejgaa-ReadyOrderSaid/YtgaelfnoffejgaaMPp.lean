/-
 Contracts of pushing (the program).
-/
import Derived.Test.YtgaelfnoffejgaaMQ
set_option linter.unusedSimpArgs false
set_option linter.unusedVariables false
set_option maxRecDepth 100000
noncomputable section
namespace Go.Ev.X
open Go Go.Ev Go.Proofs
variable {f : Nat → Int} {Q : Nat → List Nat} {t : Nat}
theorem q_w64 {T : Nat → Prop} (hT : Thr T) (h : QInv T f Q) {p : Nat} (hp : p < 256) : W64 (f (256 + p)) ∧ W64 (f (8 + p / 64)) ∧ W64 (f 4) := by
 have h1 := hdN_lt hT h hp
 have h2 := laN_lt hT h hp
 obtain ⟨b0, b1, _⟩ := h.bm (p / 64) (by omega)
 obtain ⟨s0, s1, _⟩ := h.sm
 refine ⟨⟨?_, ?_⟩, ⟨b0, b1⟩, s0, by omega⟩ <;> rw [h.hd p hp] <;> omega
def push_e_p_vs (f : Nat → Int) (t : Nat) (ks : Nat → Int) : Nat → Int := fun i => match i / 100 with
 | 0 => (t : Int)
 | 1 => fldT (getT f t) (regs f t) (i % 100)
 | 2 => if i % 100 = 0 then headOf f (getT f t).pr.toNat else tailOf f (getT f t).pr.toNat
 | 90 => ks (i % 100)
 | _ => 0
def push_e_p_rows (f : Nat → Int) (t : Nat) : Nat → Nat → Int := fun q => match q with
 | 0 => f
 | 1 => f
 | 2 => f
 | 3 => setT f t { getT f t with q := true }
 | 4 => setQ (setT f t { getT f t with q := true }) (getT f t).pr.toNat t t
 | _ => f
theorem push_e_p_run : runX cx0 cP [⟨13, [(.si .i64 (.v 1))], 1, (.tup [(tD 100), (.i .i64 0)]), (.v 9000)⟩,
 ⟨32, [(.si .i64 (.v 101))], 2, (.tup [(.si .i64 (.v 200)), (.si .i64 (.v 201))]), (.v 9001)⟩,
 ⟨28, [(.si .i64 (.v 1)), (tA 100 (sv 100) (sv 101) (sv 102) (.b true) (.i .i64 0) (sv 105) (sv 106) (sv 107) (tv 108) (tv 109) (sv 110) (sv 111) (sv 112) (sv 113))], 3, (.i .i64 0), (.v 9002)⟩,
 ⟨36, [(.si .i64 (.v 101)), (.si .i64 (.v 1)), (.si .i64 (.v 1))], 4, (.tup []), (.v 9003)⟩]
 [] 11 [.si .i64 (.v 1)] ⟨[((.cmp .eql (.v 103) (.lit 1)), false), ((.cmp .neq (.v 104) (.lit 0)), false), ((.cmp .neq (.v 105) (.lit 0)), false), ((.cmp .neq (.v 200) (.lit 0)), false)], []⟩ (.i .i64 0) 4 s4 = 0 := by decide +kernel
theorem push_e_p {Q : Nat → List Nat} {f : Nat → Int} {t : Nat} (h : QInv TT f Q) (ht : TT t) (hq : (getT f t).q = false) (he : Q (getT f t).pr.toNat = []) : MemB PP cP 90 11 [.int .i64 t] (f) (.int .i64 0) (setQ (setT f t { getT f t with q := true }) (getT f t).pr.toNat t t) := by
 obtain ⟨hp, hpe⟩ := pr_nat h ht
 have hv := getT_right (h.thr t ht)
 have htl := TT_thr.lo t ht
 have hth := TT_thr.hi t ht
 have hw := q_w64 TT_thr h hp
 obtain ⟨z1, z2⟩ := h.free t ht hq
 have hni := not_in h hq hp
 have hH : headOf f (getT f t).pr.toNat = 0 := by rw [headOf_eq TT_thr h hp, he]; rfl
 have hL : tailOf f (getT f t).pr.toNat = 0 := by rw [tailOf_eq TT_thr h hp, he]; rfl
 have hv1 : TV.Right { getT f t with q := true } := ⟨hv.st, hv.pr, hv.sl, hv.pv, hv.nx, hv.bl, hv.bd, hv.bo, hv.ha, hv.fk, hv.fa⟩
 obtain ⟨k0, ⟨p0, uk0⟩, c0⟩ := memb1 (thr_p ht (h.thr t ht))
 obtain ⟨k1, ⟨p1, uk1⟩, c1⟩ := ends_p hp hw.1
 obtain ⟨k2, ⟨p2, uk2⟩, c2⟩ := memb1 (sth_p (f := f) ht hv1)
 obtain ⟨k3, ⟨p3, uk3⟩, c3⟩ := setEnds_p (f := setT f t { getT f t with q := true }) (h := t) (l := t) hp (by omega) (by omega) (by rw [setT_other _ _ (by omega)]; exact hw.2.1) (by rw [setT_other _ _ (by omega)]; exact hw.2.2)
 exact ⟨((((0 + k0) + k1) + k2) + k3), ⟨by omega, by omega⟩, memC_x hC0 (by decide) push_e_p_run rfl (push_e_p_vs f t (ksL [k0, k1, k2, k3])) (push_e_p_rows f t) fun st => ⟨(stp_add (k := (((0 + k0) + k1) + k2)) (m := k3) (stp_add (k := ((0 + k0) + k1)) (m := k2) (stp_add (k := (0 + k0)) (m := k1) (stp_add (k := (0 : Nat)) (m := k0) rfl rfl p0) rfl p1) rfl p2) rfl p3), fa_list ⟨(sbq rfl).trans hq, f_nen z1, f_nen z2, f_nen hH, trivial⟩ trivial,
  ⟨ent_y c0 p0 rfl (fun ρ => rfl) (fun ρ => tupT thA),
   ent_y c1 p1 rfl (fun ρ => arg1 (vsi hpe.symm)) (fun ρ => rfl),
   ent_y c2 p2 rfl (fun ρ => arg2 rfl (thG rfl rfl rfl rfl (show Value.int .i64 0 = .int .i64 (getT f t).pv by rw [z1]) rfl rfl rfl (vsb (sbq rfl)) (vsb (sbq rfl)) rfl rfl rfl rfl rfl rfl rfl rfl rfl rfl rfl rfl rfl rfl rfl rfl rfl rfl rfl rfl)) (fun ρ => rfl),
   ent_y c3 p3 rfl (fun ρ => arg3 (vsi hpe.symm) rfl rfl) (fun ρ => rfl),
   trivial⟩,
  ps_list trivial, fun ρ => rfl, fun ρ => rfl⟩⟩
def push_m_p_vs (f : Nat → Int) (t z : Nat) (ks : Nat → Int) : Nat → Int := fun i => match i / 100 with
 | 0 => (t : Int)
 | 1 => fldT (getT f t) (regs f t) (i % 100)
 | 2 => if i % 100 = 0 then headOf f (getT f t).pr.toNat else (z : Int)
 | 4 => fldT (getT (setT f t { getT f t with q := true, pv := (z : Int) }) z) (regs (setT f t { getT f t with q := true, pv := (z : Int) }) z) (i % 100)
 | 90 => ks (i % 100)
 | _ => 0
def push_m_p_rows (f : Nat → Int) (t z : Nat) : Nat → Nat → Int := fun q => match q with
 | 0 => f
 | 1 => f
 | 2 => f
 | 3 => setT f t { getT f t with q := true, pv := (z : Int) }
 | 4 => setT f t { getT f t with q := true, pv := (z : Int) }
 | 5 => setT (setT f t { getT f t with q := true, pv := (z : Int) }) z { getT (setT f t { getT f t with q := true, pv := (z : Int) }) z with nx := (t : Int) }
 | 6 => setQ (setT (setT f t { getT f t with q := true, pv := (z : Int) }) z { getT (setT f t { getT f t with q := true, pv := (z : Int) }) z with nx := (t : Int) }) (getT f t).pr.toNat (headOf f (getT f t).pr.toNat) t
 | _ => f
theorem push_m_p_run : runX cx0 cP [⟨13, [(.si .i64 (.v 1))], 1, (.tup [(tD 100), (.i .i64 0)]), (.v 9000)⟩,
 ⟨32, [(.si .i64 (.v 101))], 2, (.tup [(.si .i64 (.v 200)), (.si .i64 (.v 201))]), (.v 9001)⟩,
 ⟨28, [(.si .i64 (.v 1)), (tA 100 (sv 100) (sv 101) (sv 102) (.b true) (sv 201) (sv 105) (sv 106) (sv 107) (tv 108) (tv 109) (sv 110) (sv 111) (sv 112) (sv 113))], 3, (.i .i64 0), (.v 9002)⟩,
 ⟨13, [(.si .i64 (.v 201))], 4, (.tup [(tD 400), (.i .i64 0)]), (.v 9003)⟩,
 ⟨28, [(.si .i64 (.v 201)), (tA 400 (sv 400) (sv 401) (sv 402) (tv 403) (sv 404) (sv 1) (sv 406) (sv 407) (tv 408) (tv 409) (sv 410) (sv 411) (sv 412) (sv 413))], 5, (.i .i64 0), (.v 9004)⟩,
 ⟨36, [(.si .i64 (.v 101)), (.si .i64 (.v 200)), (.si .i64 (.v 1))], 6, (.tup []), (.v 9005)⟩]
 [] 11 [.si .i64 (.v 1)] ⟨[((.cmp .eql (.v 103) (.lit 1)), false), ((.cmp .neq (.v 104) (.lit 0)), false), ((.cmp .neq (.v 105) (.lit 0)), false), ((.cmp .neq (.v 200) (.lit 0)), true), ((.cmp .eql (.v 200) (.lit 0)), false), ((.cmp .neq (.v 201) (.lit 0)), true)], []⟩ (.i .i64 0) 6 s6 = 0 := by decide +kernel
theorem push_m_p {Q : Nat → List Nat} {f : Nat → Int} {t : Nat} (h : QInv TT f Q) (ht : TT t) (hq : (getT f t).q = false) {z : Nat} (he : Q (getT f t).pr.toNat ≠ []) (hzz : laN (Q (getT f t).pr.toNat) 0 = z) : MemB PP cP 90 11 [.int .i64 t] (f) (.int .i64 0) (setQ (setT (setT f t { getT f t with q := true, pv := (z : Int) }) z { getT (setT f t { getT f t with q := true, pv := (z : Int) }) z with nx := (t : Int) }) (getT f t).pr.toNat (headOf f (getT f t).pr.toNat) t) := by
 obtain ⟨hp, hpe⟩ := pr_nat h ht
 have hv := getT_right (h.thr t ht)
 have htl := TT_thr.lo t ht
 have hth := TT_thr.hi t ht
 have hw := q_w64 TT_thr h hp
 obtain ⟨z1, z2⟩ := h.free t ht hq
 have hni := not_in h hq hp
 have hhd := h.el _ _ hp (hdN_mem (n := 0) he)
 have hla := h.el _ _ hp (laN_mem (p := 0) he)
 have hhl := TT_thr.lo _ hhd.1
 have hhh := TT_thr.hi _ hhd.1
 have hll := TT_thr.lo _ hla.1
 have hlh := TT_thr.hi _ hla.1
 have hH' := headOf_eq TT_thr h hp
 have hL' := tailOf_eq TT_thr h hp
 have hH : headOf f (getT f t).pr.toNat ≠ 0 := by omega
 have hz : TT z := hzz ▸ hla.1
 have hL : tailOf f (getT f t).pr.toNat = (z : Nat) := by rw [hL', hzz]
 have hzt : z ≠ t := fun e => by
  have hm := laN_mem (p := 0) he
  rw [hzz, e] at hm
  exact hni hm
 have hzl := TT_thr.lo z hz
 have hzh := TT_thr.hi z hz
 have hz0 : (z : Int) ≠ 0 := by omega
 have hv1 : TV.Right { getT f t with q := true, pv := (z : Int) } := ⟨hv.st, hv.pr, hv.sl, (show 0 ≤ (z : Int) ∧ (z : Int) < 65536 by omega), hv.nx, hv.bl, hv.bd, hv.bo, hv.ha, hv.fk, hv.fa⟩
 have w1 := two_setT TT_thr h.thr ht hv1
 have w1z := w1.ri z hz
 have hvz := getT_right w1z
 have hv2 : TV.Right { getT (setT f t { getT f t with q := true, pv := (z : Int) }) z with nx := (t : Int) } := ⟨hvz.st, hvz.pr, hvz.sl, hvz.pv, (show 0 ≤ (t : Int) ∧ (t : Int) < 65536 by omega), hvz.bl, hvz.bd, hvz.bo, hvz.ha, hvz.fk, hvz.fa⟩
 obtain ⟨k0, ⟨p0, uk0⟩, c0⟩ := memb1 (thr_p ht (h.thr t ht))
 obtain ⟨k1, ⟨p1, uk1⟩, c1⟩ := (show MemB PP cP _ _ [.int .i64 ((getT f t).pr.toNat : Nat)] f (.tuple #[.int .i64 (headOf f (getT f t).pr.toNat), .int .i64 (z : Nat)]) f by have k := ends_p hp hw.1; rw [hL] at k; exact k)
 obtain ⟨k2, ⟨p2, uk2⟩, c2⟩ := memb1 (sth_p (f := f) ht hv1)
 obtain ⟨k3, ⟨p3, uk3⟩, c3⟩ := memb1 (thr_p (f := setT f t { getT f t with q := true, pv := (z : Int) }) hz w1z)
 obtain ⟨k4, ⟨p4, uk4⟩, c4⟩ := memb1 (sth_p (f := setT f t { getT f t with q := true, pv := (z : Int) }) hz hv2)
 obtain ⟨k5, ⟨p5, uk5⟩, c5⟩ := setEnds_p (f := setT (setT f t { getT f t with q := true, pv := (z : Int) }) z { getT (setT f t { getT f t with q := true, pv := (z : Int) }) z with nx := (t : Int) }) (h := headOf f (getT f t).pr.toNat) (l := t) hp (by omega) (by omega) (by rw [setT_other _ _ (by omega), setT_other _ _ (by omega)]; exact hw.2.1) (by rw [setT_other _ _ (by omega), setT_other _ _ (by omega)]; exact hw.2.2)
 exact ⟨((((((0 + k0) + k1) + k2) + k3) + k4) + k5), ⟨by omega, by omega⟩, memC_x hC0 (by decide) push_m_p_run rfl (push_m_p_vs f t z (ksL [k0, k1, k2, k3, k4, k5])) (push_m_p_rows f t z) fun st => ⟨(stp_add (k := (((((0 + k0) + k1) + k2) + k3) + k4)) (m := k5) (stp_add (k := ((((0 + k0) + k1) + k2) + k3)) (m := k4) (stp_add (k := (((0 + k0) + k1) + k2)) (m := k3) (stp_add (k := ((0 + k0) + k1)) (m := k2) (stp_add (k := (0 + k0)) (m := k1) (stp_add (k := (0 : Nat)) (m := k0) rfl rfl p0) rfl p1) rfl p2) rfl p3) rfl p4) rfl p5), fa_list ⟨(sbq rfl).trans hq, f_nen z1, f_nen z2, f_ne hH, f_eqn hH, f_ne hz0, trivial⟩ trivial,
  ⟨ent_y c0 p0 rfl (fun ρ => rfl) (fun ρ => tupT thA),
   ent_y c1 p1 rfl (fun ρ => arg1 (vsi hpe.symm)) (fun ρ => rfl),
   ent_y c2 p2 rfl (fun ρ => arg2 rfl (thG rfl rfl rfl rfl rfl rfl rfl rfl (vsb (sbq rfl)) (vsb (sbq rfl)) rfl rfl rfl rfl rfl rfl rfl rfl rfl rfl rfl rfl rfl rfl rfl rfl rfl rfl rfl rfl)) (fun ρ => rfl),
   ent_y c3 p3 rfl (fun ρ => rfl) (fun ρ => tupT thA),
   ent_y c4 p4 rfl (fun ρ => arg2 rfl thA) (fun ρ => rfl),
   ent_y c5 p5 rfl (fun ρ => arg3 (vsi hpe.symm) rfl rfl) (fun ρ => rfl),
   trivial⟩,
  ps_list trivial, fun ρ => rfl, fun ρ => rfl⟩⟩
end Go.Ev.X
end
