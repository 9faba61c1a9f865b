/-
 Contracts of the scheduler (the program).
-/
import Derived.Test.YtkecfebodpkamaaGreatMHp
import Derived.Test.YtkecfebodpkamaaGreatE6
set_option linter.unusedSimpArgs false
set_option linter.unusedVariables false
set_option maxRecDepth 100000
noncomputable section
namespace Go.Ev.X
open Go Go.Ev Go.Proofs
variable {f : Nat → Int} {Q : Nat → List Nat} {P : Nat → TV} {c t : Nat}
def wake0_p_vs (f : Nat → Int) (t : Nat) (c : Nat) (ks : Nat → Int) : Nat → Int := fun i => match i / 100 with
 | 0 => (t : Int)
 | 1 => fldT (getT f t) (regs f t) (i % 100)
 | 3 => (c : Int)
 | 4 => fldT (getT (wakeA f t) t) (regs (wakeA f t) t) (i % 100)
 | 90 => ks (i % 100)
 | _ => 0
def wake0_p_rows (f : Nat → Int) (t : Nat) (c : Nat) : Nat → Nat → Int := fun q => match q with
 | 0 => f
 | 1 => f
 | 2 => wakeA f t
 | 3 => wakeA f t
 | 4 => wakeA f t
 | _ => f
theorem wake0_p_run : runX cx0 cP [⟨18, [(.si .i64 (.v 1))], 1, (.tup [(tD 100), (.i .i64 0)]), (.v 9000)⟩,
 ⟨66, [(.si .i64 (.v 1)), (tA 100 (.i .i64 1) (sv 101) (sv 102) (tv 103) (sv 104) (sv 105) (.i .i64 0) (.i .i64 0) (.b false) (.b false) (sv 110) (sv 111) (sv 112) (sv 113))], 2, (.i .i64 0), (.v 9001)⟩,
 ⟨15, [], 3, (.si .i64 (.v 300)), (.v 9002)⟩,
 ⟨18, [(.si .i64 (.v 1))], 4, (.tup [(tD 400), (.i .i64 0)]), (.v 9003)⟩]
 [] 12 [.si .i64 (.v 1)] ⟨[((.cmp .neq (.v 300) (.v 1)), true), ((.cmp .eql (.v 403) (.lit 1)), true)], []⟩ (.tup []) 4 s4 = 0 := by decide +kernel
theorem wake0_p (s : SS TT f Q P c) (ht : TT t) (hq : (getT f t).q = true) (hc : t ≠ c)  : MemE PP cP 12 [.int .i64 t] (f) (.tuple #[]) (wakeA f t) := by
 have h := s.q
 have hv := getT_right (h.thr t ht)
 have htl := TT_thr.lo t ht
 have hth := TT_thr.hi t ht
 have hw := right_wake hv
 have w := wakeA_g TT_thr h ht
 have hc1 : wakeA f t 1 = (c : Int) := by rw [w.lo 1 (by omega)]; exact s.cur
 have hq1 : (getT (wakeA f t) t).q = true := by rw [w.me]; exact hq
 obtain ⟨k0, p0, c0⟩ := mem1 (thr_p ht (h.thr t ht))
 obtain ⟨k1, p1, c1⟩ := mem1 (sth_p (f := f) ht hw)
 obtain ⟨k2, p2, c2⟩ := cur_p (f := wakeA f t) s.ct hc1
 obtain ⟨k3, p3, c3⟩ := mem1 (thr_p (f := wakeA f t) ht (wakeA_q TT_thr h ht |>.thr t ht))
 exact ⟨((((0 + k0) + k1) + k2) + k3), by omega, memC_x hC0 (by decide) wake0_p_run rfl (wake0_p_vs f t c (ksL [k0, k1, k2, k3])) (wake0_p_rows f t c) fun st => ⟨(stp_add (k := (((0 + k0) + k1) + k2)) (m := k3) (stp_add (k := ((0 + k0) + k1)) (m := k2) (stp_add (k := (0 + k0)) (m := k1) (stp_add (k := (0 : Nat)) (m := k0) rfl rfl p0) rfl p1) rfl p2) rfl p3), fa_list ⟨f_ne (show (c : Int) ≠ (t : Int) by omega), (sbq rfl).trans hq1, trivial⟩ trivial,
  ⟨ent_y c0 p0 rfl (fun ρ => rfl) (fun ρ => tupT thA),
   ent_y c1 p1 rfl (fun ρ => arg2 rfl (thG rfl rfl rfl (vsb (sbq rfl)) rfl rfl rfl rfl rfl rfl rfl rfl rfl rfl rfl rfl rfl rfl rfl rfl rfl rfl rfl rfl rfl rfl rfl rfl rfl rfl)) (fun ρ => rfl),
   ent_y c2 p2 rfl (fun ρ => rfl) (fun ρ => rfl),
   ent_y c3 p3 rfl (fun ρ => rfl) (fun ρ => tupT thA),
   trivial⟩,
  ps_list trivial, fun ρ => rfl, fun ρ => rfl⟩⟩
def wake1_p_vs (f : Nat → Int) (t : Nat) (c : Nat) (ks : Nat → Int) : Nat → Int := fun i => match i / 100 with
 | 0 => (t : Int)
 | 1 => fldT (getT f t) (regs f t) (i % 100)
 | 3 => (c : Int)
 | 4 => fldT (getT (wakeA f t) t) (regs (wakeA f t) t) (i % 100)
 | 90 => ks (i % 100)
 | _ => 0
def wake1_p_rows (f : Nat → Int) (t : Nat) (c : Nat) : Nat → Nat → Int := fun q => match q with
 | 0 => f
 | 1 => f
 | 2 => wakeA f t
 | 3 => wakeA f t
 | 4 => wakeA f t
 | 5 => pushF (wakeA f t) t
 | _ => f
theorem wake1_p_run : runX cx0 cP [⟨18, [(.si .i64 (.v 1))], 1, (.tup [(tD 100), (.i .i64 0)]), (.v 9000)⟩,
 ⟨66, [(.si .i64 (.v 1)), (tA 100 (.i .i64 1) (sv 101) (sv 102) (tv 103) (sv 104) (sv 105) (.i .i64 0) (.i .i64 0) (.b false) (.b false) (sv 110) (sv 111) (sv 112) (sv 113))], 2, (.i .i64 0), (.v 9001)⟩,
 ⟨15, [], 3, (.si .i64 (.v 300)), (.v 9002)⟩,
 ⟨18, [(.si .i64 (.v 1))], 4, (.tup [(tD 400), (.i .i64 0)]), (.v 9003)⟩,
 ⟨32, [(.si .i64 (.v 1))], 5, (.i .i64 0), (.v 9004)⟩]
 [] 12 [.si .i64 (.v 1)] ⟨[((.cmp .neq (.v 300) (.v 1)), true), ((.cmp .eql (.v 403) (.lit 1)), false)], []⟩ (.tup []) 5 s5 = 0 := by decide +kernel
theorem wake1_p (s : SS TT f Q P c) (ht : TT t) (hq : (getT f t).q = false) (hc : t ≠ c)  : MemE PP cP 12 [.int .i64 t] (f) (.tuple #[]) (pushF (wakeA f t) t) := by
 have h := s.q
 have hv := getT_right (h.thr t ht)
 have htl := TT_thr.lo t ht
 have hth := TT_thr.hi t ht
 have hw := right_wake hv
 have w := wakeA_g TT_thr h ht
 have hc1 : wakeA f t 1 = (c : Int) := by rw [w.lo 1 (by omega)]; exact s.cur
 have hq1 : (getT (wakeA f t) t).q = false := by rw [w.me]; exact hq
 obtain ⟨k0, p0, c0⟩ := mem1 (thr_p ht (h.thr t ht))
 obtain ⟨k1, p1, c1⟩ := mem1 (sth_p (f := f) ht hw)
 obtain ⟨k2, p2, c2⟩ := cur_p (f := wakeA f t) s.ct hc1
 obtain ⟨k3, p3, c3⟩ := mem1 (thr_p (f := wakeA f t) ht (wakeA_q TT_thr h ht |>.thr t ht))
 obtain ⟨k4, p4, c4⟩ := push_cp (wakeA_q TT_thr h ht) ht hq1
 exact ⟨(((((0 + k0) + k1) + k2) + k3) + k4), by omega, memC_x hC0 (by decide) wake1_p_run rfl (wake1_p_vs f t c (ksL [k0, k1, k2, k3, k4])) (wake1_p_rows f t c) fun st => ⟨(stp_add (k := ((((0 + k0) + k1) + k2) + k3)) (m := k4) (stp_add (k := (((0 + k0) + k1) + k2)) (m := k3) (stp_add (k := ((0 + k0) + k1)) (m := k2) (stp_add (k := (0 + k0)) (m := k1) (stp_add (k := (0 : Nat)) (m := k0) rfl rfl p0) rfl p1) rfl p2) rfl p3) rfl p4), fa_list ⟨f_ne (show (c : Int) ≠ (t : Int) by omega), (sbq rfl).trans hq1, trivial⟩ trivial,
  ⟨ent_y c0 p0 rfl (fun ρ => rfl) (fun ρ => tupT thA),
   ent_y c1 p1 rfl (fun ρ => arg2 rfl (thG rfl rfl rfl (vsb (sbq rfl)) rfl rfl rfl rfl rfl rfl rfl rfl rfl rfl rfl rfl rfl rfl rfl rfl rfl rfl rfl rfl rfl rfl rfl rfl rfl rfl)) (fun ρ => rfl),
   ent_y c2 p2 rfl (fun ρ => rfl) (fun ρ => rfl),
   ent_y c3 p3 rfl (fun ρ => rfl) (fun ρ => tupT thA),
   ent_y c4 p4 rfl (fun ρ => rfl) (fun ρ => rfl),
   trivial⟩,
  ps_list trivial, fun ρ => rfl, fun ρ => rfl⟩⟩
def wake2_p_vs (f : Nat → Int) (t : Nat) (c : Nat) (ks : Nat → Int) : Nat → Int := fun i => match i / 100 with
 | 0 => (t : Int)
 | 1 => fldT (getT f t) (regs f t) (i % 100)
 | 3 => (c : Int)
 | 90 => ks (i % 100)
 | _ => 0
def wake2_p_rows (f : Nat → Int) (t : Nat) (c : Nat) : Nat → Nat → Int := fun q => match q with
 | 0 => f
 | 1 => f
 | 2 => wakeA f t
 | 3 => wakeA f t
 | _ => f
theorem wake2_p_run : runX cx0 cP [⟨18, [(.si .i64 (.v 1))], 1, (.tup [(tD 100), (.i .i64 0)]), (.v 9000)⟩,
 ⟨66, [(.si .i64 (.v 1)), (tA 100 (.i .i64 1) (sv 101) (sv 102) (tv 103) (sv 104) (sv 105) (.i .i64 0) (.i .i64 0) (.b false) (.b false) (sv 110) (sv 111) (sv 112) (sv 113))], 2, (.i .i64 0), (.v 9001)⟩,
 ⟨15, [], 3, (.si .i64 (.v 300)), (.v 9002)⟩]
 [] 12 [.si .i64 (.v 1)] ⟨[((.cmp .neq (.v 300) (.v 1)), false)], []⟩ (.tup []) 3 s3 = 0 := by decide +kernel
theorem wake2_p (s : SS TT f Q P c) (ht : TT t) (hc : t = c)  : MemE PP cP 12 [.int .i64 t] (f) (.tuple #[]) (wakeA f t) := by
 have h := s.q
 have hv := getT_right (h.thr t ht)
 have htl := TT_thr.lo t ht
 have hth := TT_thr.hi t ht
 have hw := right_wake hv
 have w := wakeA_g TT_thr h ht
 have hc1 : wakeA f t 1 = (c : Int) := by rw [w.lo 1 (by omega)]; exact s.cur
 obtain ⟨k0, p0, c0⟩ := mem1 (thr_p ht (h.thr t ht))
 obtain ⟨k1, p1, c1⟩ := mem1 (sth_p (f := f) ht hw)
 obtain ⟨k2, p2, c2⟩ := cur_p (f := wakeA f t) s.ct hc1
 exact ⟨(((0 + k0) + k1) + k2), by omega, memC_x hC0 (by decide) wake2_p_run rfl (wake2_p_vs f t c (ksL [k0, k1, k2])) (wake2_p_rows f t c) fun st => ⟨(stp_add (k := ((0 + k0) + k1)) (m := k2) (stp_add (k := (0 + k0)) (m := k1) (stp_add (k := (0 : Nat)) (m := k0) rfl rfl p0) rfl p1) rfl p2), fa_list ⟨f_nen (show (c : Int) = (t : Int) by omega), trivial⟩ trivial,
  ⟨ent_y c0 p0 rfl (fun ρ => rfl) (fun ρ => tupT thA),
   ent_y c1 p1 rfl (fun ρ => arg2 rfl (thG rfl rfl rfl (vsb (sbq rfl)) rfl rfl rfl rfl rfl rfl rfl rfl rfl rfl rfl rfl rfl rfl rfl rfl rfl rfl rfl rfl rfl rfl rfl rfl rfl rfl)) (fun ρ => rfl),
   ent_y c2 p2 rfl (fun ρ => rfl) (fun ρ => rfl),
   trivial⟩,
  ps_list trivial, fun ρ => rfl, fun ρ => rfl⟩⟩
theorem wake_cp (s : SS TT f Q P c) (ht : TT t) : MemE PP cP 12 [.int .i64 t] f (.tuple #[]) (wakeF f t) := by
 unfold wakeF
 have hcur : f 1 = (t : Int) ↔ t = c := by rw [s.cur]; omega
 by_cases hc : t = c
 ·rw [if_pos (.inl (hcur.2 hc))]; exact wake2_p s ht hc
 ·cases hq : (getT f t).q with
  | true => rw [if_pos (.inr rfl)]; exact wake0_p s ht hq hc
  | false => rw [if_neg (by rintro (h | h); · exact hc (hcur.1 h)
                            ·cases h)]; exact wake1_p s ht hq hc
def yield0_p_vs (f : Nat → Int) (ks : Nat → Int) : Nat → Int := fun i => match i / 100 with
 | 1 => 0
 | 90 => ks (i % 100)
 | _ => 0
def yield0_p_rows (f : Nat → Int) : Nat → Nat → Int := fun q => match q with
 | 0 => f
 | 1 => f
 | _ => f
theorem yield0_p_run : runX cx0 cP [⟨15, [], 1, (.si .i64 (.v 100)), (.v 9000)⟩]
 [] 22 [] ⟨[((.cmp .eql (.v 100) (.lit 0)), true)], []⟩ (.tup []) 1 s1 = 0 := by decide +kernel
theorem yield0_p {Q : Nat → List Nat} {P : Nat → TV} {f : Nat → Int} (s : SS TT f Q P 0)  : MemE PP cP 22 [] (f) (.tuple #[]) (f) := by
 obtain ⟨k0, p0, c0⟩ := cur_p s.ct s.cur
 exact ⟨(0 + k0), by omega, memC_x hC0 (by decide) yield0_p_run rfl (yield0_p_vs f (ksL [k0])) (yield0_p_rows f) fun st => ⟨(stp_add (k := (0 : Nat)) (m := k0) rfl rfl p0), fa_list ⟨f_eq rfl, trivial⟩ trivial,
  ⟨ent_y c0 p0 rfl (fun ρ => rfl) (fun ρ => rfl),
   trivial⟩,
  ps_list trivial, fun ρ => rfl, fun ρ => rfl⟩⟩
def yield1_p_vs (f : Nat → Int) (t : Nat) (ks : Nat → Int) : Nat → Int := fun i => match i / 100 with
 | 1 => (t : Int)
 | 2 => fldT (getT f t) (regs f t) (i % 100)
 | 90 => ks (i % 100)
 | _ => 0
def yield1_p_rows (f : Nat → Int) (t : Nat) : Nat → Nat → Int := fun q => match q with
 | 0 => f
 | 1 => f
 | 2 => f
 | 3 => sliceA f t 5
 | 4 => upd (sliceA f t 5) 1 0
 | 5 => yieldA f t
 | _ => f
theorem yield1_p_run : runX cx0 cP [⟨15, [], 1, (.si .i64 (.v 100)), (.v 9000)⟩,
 ⟨18, [(.si .i64 (.v 100))], 2, (.tup [(tD 200), (.i .i64 0)]), (.v 9001)⟩,
 ⟨66, [(.si .i64 (.v 100)), (tA 200 (sv 200) (sv 201) (.i .i64 5) (tv 203) (sv 204) (sv 205) (sv 206) (sv 207) (tv 208) (tv 209) (sv 210) (sv 211) (sv 212) (sv 213))], 3, (.i .i64 0), (.v 9002)⟩,
 ⟨72, [(.i .i64 0)], 4, (.i .i64 0), (.v 9003)⟩,
 ⟨32, [(.si .i64 (.v 100))], 5, (.i .i64 0), (.v 9004)⟩]
 [] 22 [] ⟨[((.cmp .eql (.v 100) (.lit 0)), false)], []⟩ (.tup []) 5 s5 = 0 := by decide +kernel
theorem yield1_p {Q : Nat → List Nat} {P : Nat → TV} {t : Nat} {f : Nat → Int} (s : SS TT f Q P t) (ht : TT t)  : MemE PP cP 22 [] (f) (.tuple #[]) (yieldA f t) := by
 have h := s.q
 have hv := getT_right (h.thr t ht)
 have htl := TT_thr.lo t ht
 have hth := TT_thr.hi t ht
 have hs1 := slice_S TT_thr s ht (x := 5) (by omega)
 have hv1 := right_sl hv (x := 5) (by omega)
 have hq0 : (getT (upd (sliceA f t 5) 1 0) t).q = false := by rw [getT_upd _ _ (by omega)]; exact hs1.nc ht
 obtain ⟨k0, p0, c0⟩ := cur_p s.ct s.cur
 obtain ⟨k1, p1, c1⟩ := mem1 (thr_p ht (h.thr t ht))
 obtain ⟨k2, p2, c2⟩ := mem1 (sth_p (f := f) ht hv1)
 obtain ⟨k3, p3, c3⟩ := scur_p (t := 0) (.inl rfl) (sliceA f t 5)
 obtain ⟨k4, p4, c4⟩ := push_cp (q_upd1 TT_thr hs1.q 0) ht hq0
 exact ⟨(((((0 + k0) + k1) + k2) + k3) + k4), by omega, memC_x hC0 (by decide) yield1_p_run rfl (yield1_p_vs f t (ksL [k0, k1, k2, k3, k4])) (yield1_p_rows f t) fun st => ⟨(stp_add (k := ((((0 + k0) + k1) + k2) + k3)) (m := k4) (stp_add (k := (((0 + k0) + k1) + k2)) (m := k3) (stp_add (k := ((0 + k0) + k1)) (m := k2) (stp_add (k := (0 + k0)) (m := k1) (stp_add (k := (0 : Nat)) (m := k0) rfl rfl p0) rfl p1) rfl p2) rfl p3) rfl p4), fa_list ⟨f_eqn (show (t : Int) ≠ 0 by omega), trivial⟩ trivial,
  ⟨ent_y c0 p0 rfl (fun ρ => rfl) (fun ρ => rfl),
   ent_y c1 p1 rfl (fun ρ => rfl) (fun ρ => tupT thA),
   ent_y c2 p2 rfl (fun ρ => arg2 rfl thA) (fun ρ => rfl),
   ent_y c3 p3 rfl (fun ρ => rfl) (fun ρ => rfl),
   ent_y c4 p4 rfl (fun ρ => rfl) (fun ρ => rfl),
   trivial⟩,
  ps_list trivial, fun ρ => rfl, fun ρ => rfl⟩⟩
theorem yield_cp (s : SS TT f Q P c) : MemE PP cP 22 [] f (.tuple #[]) (yieldF f) := by
 unfold yieldF
 rcases s.ct with rfl | hc
 ·rw [if_pos (show f 1 = 0 from s.cur)]; exact yield0_p s
 ·have := TT_thr.lo c hc
  rw [if_neg (show ¬ f 1 = 0 by rw [s.cur]; omega), cur_nat s]; exact yield1_p s hc
def tick0_p_vs (f : Nat → Int) (ks : Nat → Int) : Nat → Int := fun i => match i / 100 with
 | 1 => 0
 | 90 => ks (i % 100)
 | _ => 0
def tick0_p_rows (f : Nat → Int) : Nat → Nat → Int := fun q => match q with
 | 0 => f
 | 1 => f
 | _ => f
theorem tick0_p_run : runX cx0 cP [⟨15, [], 1, (.si .i64 (.v 100)), (.v 9000)⟩]
 [] 14 [] ⟨[((.cmp .eql (.v 100) (.lit 0)), true)], []⟩ (.tup []) 1 s1 = 0 := by decide +kernel
theorem tick0_p {Q : Nat → List Nat} {P : Nat → TV} {f : Nat → Int} (s : SS TT f Q P 0)  : MemE PP cP 14 [] (f) (.tuple #[]) (f) := by
 obtain ⟨k0, p0, c0⟩ := cur_p s.ct s.cur
 exact ⟨(0 + k0), by omega, memC_x hC0 (by decide) tick0_p_run rfl (tick0_p_vs f (ksL [k0])) (tick0_p_rows f) fun st => ⟨(stp_add (k := (0 : Nat)) (m := k0) rfl rfl p0), fa_list ⟨f_eq rfl, trivial⟩ trivial,
  ⟨ent_y c0 p0 rfl (fun ρ => rfl) (fun ρ => rfl),
   trivial⟩,
  ps_list trivial, fun ρ => rfl, fun ρ => rfl⟩⟩
def tick1_p_vs (f : Nat → Int) (t : Nat) (ks : Nat → Int) : Nat → Int := fun i => match i / 100 with
 | 1 => (t : Int)
 | 2 => fldT (getT f t) (regs f t) (i % 100)
 | 4 => fldT (getT (sliceA f t ((getT f t).sl - 1)) t) (regs (sliceA f t ((getT f t).sl - 1)) t) (i % 100)
 | 90 => ks (i % 100)
 | _ => 0
def tick1_p_rows (f : Nat → Int) (t : Nat) : Nat → Nat → Int := fun q => match q with
 | 0 => f
 | 1 => f
 | 2 => f
 | 3 => sliceA f t ((getT f t).sl - 1)
 | 4 => sliceA f t ((getT f t).sl - 1)
 | _ => f
theorem tick1_p_run : runX cx0 cP [⟨15, [], 1, (.si .i64 (.v 100)), (.v 9000)⟩,
 ⟨18, [(.si .i64 (.v 100))], 2, (.tup [(tD 200), (.i .i64 0)]), (.v 9001)⟩,
 ⟨66, [(.si .i64 (.v 100)), (tA 200 (sv 200) (sv 201) (.si .i64 (.op .sub .i64 (.v 202) (.lit 1))) (tv 203) (sv 204) (sv 205) (sv 206) (sv 207) (tv 208) (tv 209) (sv 210) (sv 211) (sv 212) (sv 213))], 3, (.i .i64 0), (.v 9002)⟩,
 ⟨18, [(.si .i64 (.v 100))], 4, (.tup [(tD 400), (.i .i64 0)]), (.v 9003)⟩]
 [] 14 [] ⟨[((.cmp .eql (.v 100) (.lit 0)), false), ((.cmp .leq (.v 402) (.lit 0)), false)], []⟩ (.tup []) 4 s4 = 0 := by decide +kernel
theorem tick1_p {Q : Nat → List Nat} {P : Nat → TV} {t : Nat} {f : Nat → Int} (s : SS TT f Q P t) (ht : TT t) (hsl1 : 1 ≤ (P t).sl) (hsl : 1 < (P t).sl)  : MemE PP cP 14 [] (f) (.tuple #[]) (sliceA f t ((getT f t).sl - 1)) := by
 have h := s.q
 have hv := getT_right (h.thr t ht)
 have htl := TT_thr.lo t ht
 have hth := TT_thr.hi t ht
 have h1 : 1 ≤ (getT f t).sl := by rw [s.sl ht]; exact hsl1
 have h5 := hv.sl
 have hs1 := slice_S TT_thr s ht (x := (getT f t).sl - 1) (by omega)
 have hv1 := right_sl hv (x := (getT f t).sl - 1) (by omega)
 have w := two_setT TT_thr h.thr ht hv1
 have e1 : (getT (sliceA f t ((getT f t).sl - 1)) t).sl = (getT f t).sl - 1 := by
  show (getT (setT _ _ _) t).sl = _
  rw [w.me]
 obtain ⟨k0, p0, c0⟩ := cur_p s.ct s.cur
 obtain ⟨k1, p1, c1⟩ := mem1 (thr_p ht (h.thr t ht))
 obtain ⟨k2, p2, c2⟩ := mem1 (sth_p (f := f) ht hv1)
 obtain ⟨k3, p3, c3⟩ := mem1 (thr_p (f := sliceA f t ((getT f t).sl - 1)) ht (hs1.q.thr t ht))
 exact ⟨((((0 + k0) + k1) + k2) + k3), by omega, memC_x hC0 (by decide) tick1_p_run rfl (tick1_p_vs f t (ksL [k0, k1, k2, k3])) (tick1_p_rows f t) fun st => ⟨(stp_add (k := (((0 + k0) + k1) + k2)) (m := k3) (stp_add (k := ((0 + k0) + k1)) (m := k2) (stp_add (k := (0 + k0)) (m := k1) (stp_add (k := (0 : Nat)) (m := k0) rfl rfl p0) rfl p1) rfl p2) rfl p3), fa_list ⟨f_eqn (show (t : Int) ≠ 0 by omega), f_len (show (0 : Int) < (getT (sliceA f t ((getT f t).sl - 1)) t).sl by rw [e1, s.sl ht]; omega), trivial⟩ trivial,
  ⟨ent_y c0 p0 rfl (fun ρ => rfl) (fun ρ => rfl),
   ent_y c1 p1 rfl (fun ρ => rfl) (fun ρ => tupT thA),
   ent_y c2 p2 rfl (fun ρ => arg2 rfl (thG rfl rfl (vsi (den_subi (x := (getT f t).sl) (y := 1) rfl rfl (by omega) (by omega))) (vsb (sbq rfl)) rfl rfl rfl rfl (vsb (sbq rfl)) (vsb (sbq rfl)) rfl rfl rfl rfl rfl rfl rfl rfl rfl rfl rfl rfl rfl rfl rfl rfl rfl rfl rfl rfl)) (fun ρ => rfl),
   ent_y c3 p3 rfl (fun ρ => rfl) (fun ρ => tupT thA),
   trivial⟩,
  ps_list trivial, fun ρ => rfl, fun ρ => rfl⟩⟩
def tick2_p_vs (f : Nat → Int) (t : Nat) (ks : Nat → Int) : Nat → Int := fun i => match i / 100 with
 | 1 => (t : Int)
 | 2 => fldT (getT f t) (regs f t) (i % 100)
 | 4 => fldT (getT (sliceA f t ((getT f t).sl - 1)) t) (regs (sliceA f t ((getT f t).sl - 1)) t) (i % 100)
 | 5 => (t : Int)
 | 6 => fldT (getT (sliceA f t ((getT f t).sl - 1)) t) (regs (sliceA f t ((getT f t).sl - 1)) t) (i % 100)
 | 90 => ks (i % 100)
 | _ => 0
def tick2_p_rows (f : Nat → Int) (t : Nat) : Nat → Nat → Int := fun q => match q with
 | 0 => f
 | 1 => f
 | 2 => f
 | 3 => sliceA f t ((getT f t).sl - 1)
 | 4 => sliceA f t ((getT f t).sl - 1)
 | 5 => sliceA f t ((getT f t).sl - 1)
 | 6 => sliceA f t ((getT f t).sl - 1)
 | 7 => setT (sliceA f t ((getT f t).sl - 1)) t { getT (sliceA f t ((getT f t).sl - 1)) t with sl := 5 }
 | 8 => upd (setT (sliceA f t ((getT f t).sl - 1)) t { getT (sliceA f t ((getT f t).sl - 1)) t with sl := 5 }) 1 0
 | 9 => pushF (upd (setT (sliceA f t ((getT f t).sl - 1)) t { getT (sliceA f t ((getT f t).sl - 1)) t with sl := 5 }) 1 0) t
 | _ => f
theorem tick2_p_run : runX cx0 cP [⟨15, [], 1, (.si .i64 (.v 100)), (.v 9000)⟩,
 ⟨18, [(.si .i64 (.v 100))], 2, (.tup [(tD 200), (.i .i64 0)]), (.v 9001)⟩,
 ⟨66, [(.si .i64 (.v 100)), (tA 200 (sv 200) (sv 201) (.si .i64 (.op .sub .i64 (.v 202) (.lit 1))) (tv 203) (sv 204) (sv 205) (sv 206) (sv 207) (tv 208) (tv 209) (sv 210) (sv 211) (sv 212) (sv 213))], 3, (.i .i64 0), (.v 9002)⟩,
 ⟨18, [(.si .i64 (.v 100))], 4, (.tup [(tD 400), (.i .i64 0)]), (.v 9003)⟩,
 ⟨15, [], 5, (.si .i64 (.v 500)), (.v 9004)⟩,
 ⟨18, [(.si .i64 (.v 500))], 6, (.tup [(tD 600), (.i .i64 0)]), (.v 9005)⟩,
 ⟨66, [(.si .i64 (.v 500)), (tA 600 (sv 600) (sv 601) (.i .i64 5) (tv 603) (sv 604) (sv 605) (sv 606) (sv 607) (tv 608) (tv 609) (sv 610) (sv 611) (sv 612) (sv 613))], 7, (.i .i64 0), (.v 9006)⟩,
 ⟨72, [(.i .i64 0)], 8, (.i .i64 0), (.v 9007)⟩,
 ⟨32, [(.si .i64 (.v 500))], 9, (.i .i64 0), (.v 9008)⟩]
 [] 14 [] ⟨[((.cmp .eql (.v 100) (.lit 0)), false), ((.cmp .leq (.v 402) (.lit 0)), true), ((.cmp .eql (.v 500) (.lit 0)), false)], []⟩ (.tup []) 9 (.op .add .i64 s8 (.v 9008)) = 0 := by decide +kernel
theorem tick2_p {Q : Nat → List Nat} {P : Nat → TV} {t : Nat} {f : Nat → Int} (s : SS TT f Q P t) (ht : TT t) (hsl1 : 1 ≤ (P t).sl) (hsl : (P t).sl ≤ 1)  : MemE PP cP 14 [] (f) (.tuple #[]) (pushF (upd (setT (sliceA f t ((getT f t).sl - 1)) t { getT (sliceA f t ((getT f t).sl - 1)) t with sl := 5 }) 1 0) t) := by
 have h := s.q
 have hv := getT_right (h.thr t ht)
 have htl := TT_thr.lo t ht
 have hth := TT_thr.hi t ht
 have h1 : 1 ≤ (getT f t).sl := by rw [s.sl ht]; exact hsl1
 have h5 := hv.sl
 have hs1 := slice_S TT_thr s ht (x := (getT f t).sl - 1) (by omega)
 have hv1 := right_sl hv (x := (getT f t).sl - 1) (by omega)
 have w := two_setT TT_thr h.thr ht hv1
 have e1 : (getT (sliceA f t ((getT f t).sl - 1)) t).sl = (getT f t).sl - 1 := by
  show (getT (setT _ _ _) t).sl = _
  rw [w.me]
 have hv2 := right_sl (getT_right (hs1.q.thr t ht)) (x := 5) (by omega)
 have hs2 := slice_S TT_thr hs1 ht (x := 5) (by omega)
 have hq0 : (getT (upd (setT (sliceA f t ((getT f t).sl - 1)) t { getT (sliceA f t ((getT f t).sl - 1)) t with sl := 5 }) 1 0) t).q = false := by rw [getT_upd _ _ (by omega)]; exact hs2.nc ht
 obtain ⟨k0, p0, c0⟩ := cur_p s.ct s.cur
 obtain ⟨k1, p1, c1⟩ := mem1 (thr_p ht (h.thr t ht))
 obtain ⟨k2, p2, c2⟩ := mem1 (sth_p (f := f) ht hv1)
 obtain ⟨k3, p3, c3⟩ := mem1 (thr_p (f := sliceA f t ((getT f t).sl - 1)) ht (hs1.q.thr t ht))
 obtain ⟨k4, p4, c4⟩ := cur_p hs1.ct hs1.cur
 obtain ⟨k5, p5, c5⟩ := mem1 (thr_p (f := sliceA f t ((getT f t).sl - 1)) ht (hs1.q.thr t ht))
 obtain ⟨k6, p6, c6⟩ := mem1 (sth_p (f := sliceA f t ((getT f t).sl - 1)) ht hv2)
 obtain ⟨k7, p7, c7⟩ := scur_p (t := 0) (.inl rfl) (setT (sliceA f t ((getT f t).sl - 1)) t { getT (sliceA f t ((getT f t).sl - 1)) t with sl := 5 })
 obtain ⟨k8, p8, c8⟩ := push_cp (q_upd1 TT_thr hs2.q 0) ht hq0
 exact ⟨(((((((((0 + k0) + k1) + k2) + k3) + k4) + k5) + k6) + k7) + k8), by omega, memC_x hC0 (by decide) tick2_p_run rfl (tick2_p_vs f t (ksL [k0, k1, k2, k3, k4, k5, k6, k7, k8])) (tick2_p_rows f t) fun st => ⟨(stp_add (k := ((((((((0 + k0) + k1) + k2) + k3) + k4) + k5) + k6) + k7)) (m := k8) (stp_add (k := (((((((0 + k0) + k1) + k2) + k3) + k4) + k5) + k6)) (m := k7) (stp_add (k := ((((((0 + k0) + k1) + k2) + k3) + k4) + k5)) (m := k6) (stp_add (k := (((((0 + k0) + k1) + k2) + k3) + k4)) (m := k5) (stp_add (k := ((((0 + k0) + k1) + k2) + k3)) (m := k4) (stp_add (k := (((0 + k0) + k1) + k2)) (m := k3) (stp_add (k := ((0 + k0) + k1)) (m := k2) (stp_add (k := (0 + k0)) (m := k1) (stp_add (k := (0 : Nat)) (m := k0) rfl rfl p0) rfl p1) rfl p2) rfl p3) rfl p4) rfl p5) rfl p6) rfl p7) rfl p8), fa_list ⟨f_eqn (show (t : Int) ≠ 0 by omega), f_le (show (getT (sliceA f t ((getT f t).sl - 1)) t).sl ≤ (0 : Int) by rw [e1, s.sl ht]; omega), f_eqn (show (t : Int) ≠ 0 by omega), trivial⟩ trivial,
  ⟨ent_y c0 p0 rfl (fun ρ => rfl) (fun ρ => rfl),
   ent_y c1 p1 rfl (fun ρ => rfl) (fun ρ => tupT thA),
   ent_y c2 p2 rfl (fun ρ => arg2 rfl (thG rfl rfl (vsi (den_subi (x := (getT f t).sl) (y := 1) rfl rfl (by omega) (by omega))) (vsb (sbq rfl)) rfl rfl rfl rfl (vsb (sbq rfl)) (vsb (sbq rfl)) rfl rfl rfl rfl rfl rfl rfl rfl rfl rfl rfl rfl rfl rfl rfl rfl rfl rfl rfl rfl)) (fun ρ => rfl),
   ent_y c3 p3 rfl (fun ρ => rfl) (fun ρ => tupT thA),
   ent_y c4 p4 rfl (fun ρ => rfl) (fun ρ => rfl),
   ent_y c5 p5 rfl (fun ρ => rfl) (fun ρ => tupT thA),
   ent_y c6 p6 rfl (fun ρ => arg2 rfl thA) (fun ρ => rfl),
   ent_y c7 p7 rfl (fun ρ => rfl) (fun ρ => rfl),
   ent_y c8 p8 rfl (fun ρ => rfl) (fun ρ => rfl),
   trivial⟩,
  ps_list trivial, fun ρ => rfl, fun ρ => rfl⟩⟩
theorem tick_cp (s : SS TT f Q P c) (hsl : TT c → 1 ≤ (P c).sl) : MemE PP cP 14 [] f (.tuple #[]) (tickF f) := by
 unfold tickF
 rcases s.ct with rfl | hc
 ·rw [if_pos (show f 1 = 0 from s.cur)]; exact tick0_p s
 have := TT_thr.lo c hc
 have hsl1 := hsl hc
 rw [if_neg (show ¬ f 1 = 0 by rw [s.cur]; omega), cur_nat s]
 unfold tickA
 by_cases hl : (P c).sl ≤ 1
 ·rw [if_pos (show (getT f c).sl - 1 ≤ 0 by rw [s.sl hc]; omega)]
  have e : pushF (upd (setT (sliceA f c ((getT f c).sl - 1)) c { getT (sliceA f c ((getT f c).sl - 1)) c with sl := 5 }) 1 0) c = yieldA f c := by
   have e1 : getT (sliceA f c ((getT f c).sl - 1)) c = { getT f c with sl := (getT f c).sl - 1 } := (two_setT TT_thr s.q.thr hc (right_sl (getT_right (s.q.thr c hc)) (x := (getT f c).sl - 1) (by have := (getT_right (s.q.thr c hc)).sl; have := s.sl hc; omega))).me
   unfold yieldA
   rw [e1]
   show pushF (upd (setT (setT f c _) c _) 1 0) c = _
   rw [setT_twice]; rfl
  rw [← e]
  exact tick2_p s hc hsl1 hl
 ·rw [if_neg (show ¬ (getT f c).sl - 1 ≤ 0 by rw [s.sl hc]; omega)]
  exact tick1_p s hc hsl1 (by omega)
def pr0_p_vs (f : Nat → Int) (t : Nat) (p : Int) (ks : Nat → Int) : Nat → Int := fun i => match i / 100 with
 | 0 => if i = 1 then (t : Int) else p
 | 1 => fldT (getT f t) (regs f t) (i % 100)
 | 2 => fldT (getT f t) (regs f t) (i % 100)
 | 90 => ks (i % 100)
 | _ => 0
def pr0_p_rows (f : Nat → Int) (t : Nat) (p : Int) : Nat → Nat → Int := fun q => match q with
 | 0 => f
 | 1 => f
 | 2 => f
 | 3 => prA f t p
 | _ => f
theorem pr0_p_run : runX cx0 cP [⟨18, [(.si .i64 (.v 1))], 1, (.tup [(tD 100), (.i .i64 0)]), (.v 9000)⟩,
 ⟨18, [(.si .i64 (.v 1))], 2, (.tup [(tD 200), (.i .i64 0)]), (.v 9001)⟩,
 ⟨66, [(.si .i64 (.v 1)), (tA 200 (sv 200) (sv 2) (sv 202) (tv 203) (sv 204) (sv 205) (sv 206) (sv 207) (tv 208) (tv 209) (sv 210) (sv 211) (sv 212) (sv 213))], 3, (.i .i64 0), (.v 9002)⟩]
 [] 11 [.si .i64 (.v 1), .si .i64 (.v 2)] ⟨[((.cmp .lss (.v 2) (.lit 0)), false), ((.cmp .geq (.v 2) (.lit 256)), false), ((.cmp .eql (.v 100) (.lit 1)), false)], []⟩ (.i .i64 0) 3 s3 = 0 := by decide +kernel
theorem pr0_p (s : SS TT f Q P c) (ht : TT t) {p : Int} (hp : 0 ≤ p ∧ p < 256) (hs : (getT f t).st ≠ 1)  : MemE PP cP 11 [.int .i64 t, .int .i64 p] (f) (.int .i64 0) (prA f t p) := by
 have h := s.q
 have hv := getT_right (h.thr t ht)
 have htl := TT_thr.lo t ht
 have hth := TT_thr.hi t ht
 have hv1 := right_pr hv hp
 obtain ⟨k0, p0, c0⟩ := mem1 (thr_p ht (h.thr t ht))
 obtain ⟨k1, p1, c1⟩ := mem1 (thr_p ht (h.thr t ht))
 obtain ⟨k2, p2, c2⟩ := mem1 (sth_p (f := f) ht hv1)
 exact ⟨(((0 + k0) + k1) + k2), by omega, memC_x hC0 (by decide) pr0_p_run rfl (pr0_p_vs f t p (ksL [k0, k1, k2])) (pr0_p_rows f t p) fun st => ⟨(stp_add (k := ((0 + k0) + k1)) (m := k2) (stp_add (k := (0 + k0)) (m := k1) (stp_add (k := (0 : Nat)) (m := k0) rfl rfl p0) rfl p1) rfl p2), fa_list ⟨f_ltn hp.1, f_gen (show p < 256 from hp.2), f_eqn hs, trivial⟩ trivial,
  ⟨ent_y c0 p0 rfl (fun ρ => rfl) (fun ρ => tupT thA),
   ent_y c1 p1 rfl (fun ρ => rfl) (fun ρ => tupT thA),
   ent_y c2 p2 rfl (fun ρ => arg2 rfl thA) (fun ρ => rfl),
   trivial⟩,
  ps_list trivial, fun ρ => rfl, fun ρ => rfl⟩⟩
def pr1_p_vs (f : Nat → Int) (t : Nat) (p : Int) (ks : Nat → Int) : Nat → Int := fun i => match i / 100 with
 | 0 => if i = 1 then (t : Int) else p
 | 1 => fldT (getT f t) (regs f t) (i % 100)
 | 2 => fldT (getT f t) (regs f t) (i % 100)
 | 90 => ks (i % 100)
 | _ => 0
def pr1_p_rows (f : Nat → Int) (t : Nat) (p : Int) : Nat → Nat → Int := fun q => match q with
 | 0 => f
 | 1 => f
 | 2 => f
 | 3 => prA f t p
 | _ => f
theorem pr1_p_run : runX cx0 cP [⟨18, [(.si .i64 (.v 1))], 1, (.tup [(tD 100), (.i .i64 0)]), (.v 9000)⟩,
 ⟨18, [(.si .i64 (.v 1))], 2, (.tup [(tD 200), (.i .i64 0)]), (.v 9001)⟩,
 ⟨66, [(.si .i64 (.v 1)), (tA 200 (sv 200) (sv 2) (sv 202) (tv 203) (sv 204) (sv 205) (sv 206) (sv 207) (tv 208) (tv 209) (sv 210) (sv 211) (sv 212) (sv 213))], 3, (.i .i64 0), (.v 9002)⟩]
 [] 11 [.si .i64 (.v 1), .si .i64 (.v 2)] ⟨[((.cmp .lss (.v 2) (.lit 0)), false), ((.cmp .geq (.v 2) (.lit 256)), false), ((.cmp .eql (.v 100) (.lit 1)), true), ((.cmp .eql (.v 103) (.lit 1)), false)], []⟩ (.i .i64 0) 3 s3 = 0 := by decide +kernel
theorem pr1_p (s : SS TT f Q P c) (ht : TT t) {p : Int} (hp : 0 ≤ p ∧ p < 256) (hs : (getT f t).st = 1) (hq : (getT f t).q = false)  : MemE PP cP 11 [.int .i64 t, .int .i64 p] (f) (.int .i64 0) (prA f t p) := by
 have h := s.q
 have hv := getT_right (h.thr t ht)
 have htl := TT_thr.lo t ht
 have hth := TT_thr.hi t ht
 have hv1 := right_pr hv hp
 obtain ⟨k0, p0, c0⟩ := mem1 (thr_p ht (h.thr t ht))
 obtain ⟨k1, p1, c1⟩ := mem1 (thr_p ht (h.thr t ht))
 obtain ⟨k2, p2, c2⟩ := mem1 (sth_p (f := f) ht hv1)
 exact ⟨(((0 + k0) + k1) + k2), by omega, memC_x hC0 (by decide) pr1_p_run rfl (pr1_p_vs f t p (ksL [k0, k1, k2])) (pr1_p_rows f t p) fun st => ⟨(stp_add (k := ((0 + k0) + k1)) (m := k2) (stp_add (k := (0 + k0)) (m := k1) (stp_add (k := (0 : Nat)) (m := k0) rfl rfl p0) rfl p1) rfl p2), fa_list ⟨f_ltn hp.1, f_gen (show p < 256 from hp.2), f_eq hs, (sbq rfl).trans hq, trivial⟩ trivial,
  ⟨ent_y c0 p0 rfl (fun ρ => rfl) (fun ρ => tupT thA),
   ent_y c1 p1 rfl (fun ρ => rfl) (fun ρ => tupT thA),
   ent_y c2 p2 rfl (fun ρ => arg2 rfl thA) (fun ρ => rfl),
   trivial⟩,
  ps_list trivial, fun ρ => rfl, fun ρ => rfl⟩⟩
def pr2_p_vs (f : Nat → Int) (t : Nat) (p : Int) (ks : Nat → Int) : Nat → Int := fun i => match i / 100 with
 | 0 => if i = 1 then (t : Int) else p
 | 1 => fldT (getT f t) (regs f t) (i % 100)
 | 3 => fldT (getT (dropF f t) t) (regs (dropF f t) t) (i % 100)
 | 90 => ks (i % 100)
 | _ => 0
def pr2_p_rows (f : Nat → Int) (t : Nat) (p : Int) : Nat → Nat → Int := fun q => match q with
 | 0 => f
 | 1 => f
 | 2 => dropF f t
 | 3 => dropF f t
 | 4 => prA (dropF f t) t p
 | 5 => pushF (prA (dropF f t) t p) t
 | _ => f
theorem pr2_p_run : runX cx0 cP [⟨18, [(.si .i64 (.v 1))], 1, (.tup [(tD 100), (.i .i64 0)]), (.v 9000)⟩,
 ⟨29, [(.si .i64 (.v 1))], 2, (.i .i64 0), (.v 9001)⟩,
 ⟨18, [(.si .i64 (.v 1))], 3, (.tup [(tD 300), (.i .i64 0)]), (.v 9002)⟩,
 ⟨66, [(.si .i64 (.v 1)), (tA 300 (sv 300) (sv 2) (sv 302) (tv 303) (sv 304) (sv 305) (sv 306) (sv 307) (tv 308) (tv 309) (sv 310) (sv 311) (sv 312) (sv 313))], 4, (.i .i64 0), (.v 9003)⟩,
 ⟨32, [(.si .i64 (.v 1))], 5, (.i .i64 0), (.v 9004)⟩]
 [] 11 [.si .i64 (.v 1), .si .i64 (.v 2)] ⟨[((.cmp .lss (.v 2) (.lit 0)), false), ((.cmp .geq (.v 2) (.lit 256)), false), ((.cmp .eql (.v 100) (.lit 1)), true), ((.cmp .eql (.v 103) (.lit 1)), true)], []⟩ (.i .i64 0) 5 s5 = 0 := by decide +kernel
theorem pr2_p (s : SS TT f Q P c) (ht : TT t) {p : Int} (hp : 0 ≤ p ∧ p < 256) (hs : (getT f t).st = 1) (hq : (getT f t).q = true)  : MemE PP cP 11 [.int .i64 t, .int .i64 p] (f) (.int .i64 0) (pushF (prA (dropF f t) t p) t) := by
 have h := s.q
 have hv := getT_right (h.thr t ht)
 have htl := TT_thr.lo t ht
 have hth := TT_thr.hi t ht
 have q1 := drop_Q TT_thr s ht hq
 have hqd : (getT (dropF f t) t).q = false := by rw [((drop_S TT_thr s ht hq).2.1 t ht).2]; simp
 have hv2 := right_pr (getT_right (q1.thr t ht)) hp
 have w := two_setT TT_thr q1.thr ht hv2
 have q2 : QInv TT (prA (dropF f t) t p) (dropQ Q t) := chg TT_thr q1 ht hv2 rfl rfl rfl (.inr hqd)
 have hq2 : (getT (prA (dropF f t) t p) t).q = false := by show (getT (setT _ _ _) t).q = false; rw [w.me]; exact hqd
 obtain ⟨k0, p0, c0⟩ := mem1 (thr_p ht (h.thr t ht))
 obtain ⟨k1, p1, c1⟩ := drop_cp h ht hq
 obtain ⟨k2, p2, c2⟩ := mem1 (thr_p (f := dropF f t) ht (q1.thr t ht))
 obtain ⟨k3, p3, c3⟩ := mem1 (sth_p (f := dropF f t) ht hv2)
 obtain ⟨k4, p4, c4⟩ := push_cp q2 ht hq2
 exact ⟨(((((0 + k0) + k1) + k2) + k3) + k4), by omega, memC_x hC0 (by decide) pr2_p_run rfl (pr2_p_vs f t p (ksL [k0, k1, k2, k3, k4])) (pr2_p_rows f t p) fun st => ⟨(stp_add (k := ((((0 + k0) + k1) + k2) + k3)) (m := k4) (stp_add (k := (((0 + k0) + k1) + k2)) (m := k3) (stp_add (k := ((0 + k0) + k1)) (m := k2) (stp_add (k := (0 + k0)) (m := k1) (stp_add (k := (0 : Nat)) (m := k0) rfl rfl p0) rfl p1) rfl p2) rfl p3) rfl p4), fa_list ⟨f_ltn hp.1, f_gen (show p < 256 from hp.2), f_eq hs, (sbq rfl).trans hq, trivial⟩ trivial,
  ⟨ent_y c0 p0 rfl (fun ρ => rfl) (fun ρ => tupT thA),
   ent_y c1 p1 rfl (fun ρ => rfl) (fun ρ => rfl),
   ent_y c2 p2 rfl (fun ρ => rfl) (fun ρ => tupT thA),
   ent_y c3 p3 rfl (fun ρ => arg2 rfl thA) (fun ρ => rfl),
   ent_y c4 p4 rfl (fun ρ => rfl) (fun ρ => rfl),
   trivial⟩,
  ps_list trivial, fun ρ => rfl, fun ρ => rfl⟩⟩
theorem pr_cp (s : SS TT f Q P c) (ht : TT t) {p : Int} (hp : 0 ≤ p ∧ p < 256) : MemE PP cP 11 [.int .i64 t, .int .i64 p] f (.int .i64 0) (prF f t p) := by
 unfold prF
 have hrun := s.run t ht
 cases hq : (getT f t).q with
 | true =>
  rw [if_pos rfl]
  exact pr2_p s ht hp (by rw [s.st ht]; exact hrun.2 (.inr hq)) hq
 | false =>
  rw [if_neg (by simp)]
  by_cases hs : (getT f t).st = 1
  ·exact pr1_p s ht hp hs hq
  ·exact pr0_p s ht hp hs
def settle0_p_vs (f : Nat → Int) (c : Nat) (ks : Nat → Int) : Nat → Int := fun i => match i / 100 with
 | 1 => 0
 | 2 => (c : Int)
 | 90 => ks (i % 100)
 | _ => 0
def settle0_p_rows (f : Nat → Int) (c : Nat) : Nat → Nat → Int := fun q => match q with
 | 0 => f
 | 1 => f
 | _ => f
theorem settle0_p_run : runX cx0 cP [⟨23, [], 1, (.si .i64 (.v 100)), (.v 9000)⟩]
 [] 13 [] ⟨[((.cmp .eql (.v 100) (.lit 0)), true)], []⟩ (.tup []) 1 s1 = 0 := by decide +kernel
theorem settle0_p {Q : Nat → List Nat} {P : Nat → TV} {c : Nat} {f : Nat → Int} (s : SS TT f Q P c) (hh : MemE PP cP 23 [] f (.int .i64 (0 : Nat)) f)  : MemE PP cP 13 [] (f) (.tuple #[]) (f) := by
 obtain ⟨k0, p0, c0⟩ := hh
 exact ⟨(0 + k0), by omega, memC_x hC0 (by decide) settle0_p_run rfl (settle0_p_vs f c (ksL [k0])) (settle0_p_rows f c) fun st => ⟨(stp_add (k := (0 : Nat)) (m := k0) rfl rfl p0), fa_list ⟨f_eq rfl, trivial⟩ trivial,
  ⟨ent_y c0 p0 rfl (fun ρ => rfl) (fun ρ => rfl),
   trivial⟩,
  ps_list trivial, fun ρ => rfl, fun ρ => rfl⟩⟩
def settle1_p_vs (f : Nat → Int) (c h : Nat) (ks : Nat → Int) : Nat → Int := fun i => match i / 100 with
 | 1 => (h : Int)
 | 2 => (c : Int)
 | 3 => fldT (getT f h) (regs f h) (i % 100)
 | 4 => fldT (getT f c) (regs f c) (i % 100)
 | 90 => ks (i % 100)
 | _ => 0
def settle1_p_rows (f : Nat → Int) (c h : Nat) : Nat → Nat → Int := fun q => match q with
 | 0 => f
 | 1 => f
 | 2 => f
 | 3 => f
 | 4 => f
 | _ => f
theorem settle1_p_run : runX cx0 cP [⟨23, [], 1, (.si .i64 (.v 100)), (.v 9000)⟩,
 ⟨15, [], 2, (.si .i64 (.v 200)), (.v 9001)⟩,
 ⟨18, [(.si .i64 (.v 100))], 3, (.tup [(tD 300), (.i .i64 0)]), (.v 9002)⟩,
 ⟨18, [(.si .i64 (.v 200))], 4, (.tup [(tD 400), (.i .i64 0)]), (.v 9003)⟩]
 [] 13 [] ⟨[((.cmp .eql (.v 100) (.lit 0)), false), ((.cmp .neq (.v 200) (.lit 0)), true), ((.cmp .leq (.v 301) (.v 401)), true)], []⟩ (.tup []) 4 s4 = 0 := by decide +kernel
theorem settle1_p {Q : Nat → List Nat} {P : Nat → TV} {c : Nat} {f : Nat → Int} (s : SS TT f Q P c) {h : Nat} (hT : TT h) (hq : (getT f h).q = true) (hh : MemE PP cP 23 [] f (.int .i64 (h : Nat)) f) (hcT : TT c) (hle : (getT f h).pr ≤ (getT f c).pr)  : MemE PP cP 13 [] (f) (.tuple #[]) (f) := by
 have hq0 := s.q
 have hhl := TT_thr.lo h hT
 have hcl := TT_thr.lo c hcT
 obtain ⟨k0, p0, c0⟩ := hh
 obtain ⟨k1, p1, c1⟩ := cur_p s.ct s.cur
 obtain ⟨k2, p2, c2⟩ := mem1 (thr_p hT (hq0.thr h hT))
 obtain ⟨k3, p3, c3⟩ := mem1 (thr_p hcT (hq0.thr c hcT))
 exact ⟨((((0 + k0) + k1) + k2) + k3), by omega, memC_x hC0 (by decide) settle1_p_run rfl (settle1_p_vs f c h (ksL [k0, k1, k2, k3])) (settle1_p_rows f c h) fun st => ⟨(stp_add (k := (((0 + k0) + k1) + k2)) (m := k3) (stp_add (k := ((0 + k0) + k1)) (m := k2) (stp_add (k := (0 + k0)) (m := k1) (stp_add (k := (0 : Nat)) (m := k0) rfl rfl p0) rfl p1) rfl p2) rfl p3), fa_list ⟨f_eqn (show (h : Int) ≠ 0 by omega), f_ne (show (c : Int) ≠ 0 by omega), f_le hle, trivial⟩ trivial,
  ⟨ent_y c0 p0 rfl (fun ρ => rfl) (fun ρ => rfl),
   ent_y c1 p1 rfl (fun ρ => rfl) (fun ρ => rfl),
   ent_y c2 p2 rfl (fun ρ => rfl) (fun ρ => tupT thA),
   ent_y c3 p3 rfl (fun ρ => rfl) (fun ρ => tupT thA),
   trivial⟩,
  ps_list trivial, fun ρ => rfl, fun ρ => rfl⟩⟩
def settle2_p_vs (f : Nat → Int) (c h : Nat) (ks : Nat → Int) : Nat → Int := fun i => match i / 100 with
 | 1 => (h : Int)
 | 2 => (c : Int)
 | 3 => fldT (getT f h) (regs f h) (i % 100)
 | 4 => fldT (getT f c) (regs f c) (i % 100)
 | 90 => ks (i % 100)
 | _ => 0
def settle2_p_rows (f : Nat → Int) (c h : Nat) : Nat → Nat → Int := fun q => match q with
 | 0 => f
 | 1 => f
 | 2 => f
 | 3 => f
 | 4 => f
 | 5 => dropF f h
 | 6 => pushFrontF (dropF f h) c
 | 7 => upd (pushFrontF (dropF f h) c) 1 h
 | _ => f
theorem settle2_p_run : runX cx0 cP [⟨23, [], 1, (.si .i64 (.v 100)), (.v 9000)⟩,
 ⟨15, [], 2, (.si .i64 (.v 200)), (.v 9001)⟩,
 ⟨18, [(.si .i64 (.v 100))], 3, (.tup [(tD 300), (.i .i64 0)]), (.v 9002)⟩,
 ⟨18, [(.si .i64 (.v 200))], 4, (.tup [(tD 400), (.i .i64 0)]), (.v 9003)⟩,
 ⟨29, [(.si .i64 (.v 100))], 5, (.i .i64 0), (.v 9004)⟩,
 ⟨35, [(.si .i64 (.v 200))], 6, (.i .i64 0), (.v 9005)⟩,
 ⟨72, [(.si .i64 (.v 100))], 7, (.i .i64 0), (.v 9006)⟩]
 [] 13 [] ⟨[((.cmp .eql (.v 100) (.lit 0)), false), ((.cmp .neq (.v 200) (.lit 0)), true), ((.cmp .leq (.v 301) (.v 401)), false)], []⟩ (.tup []) 7 s7 = 0 := by decide +kernel
theorem settle2_p {Q : Nat → List Nat} {P : Nat → TV} {c : Nat} {f : Nat → Int} (s : SS TT f Q P c) {h : Nat} (hT : TT h) (hq : (getT f h).q = true) (hh : MemE PP cP 23 [] f (.int .i64 (h : Nat)) f) (hcT : TT c) (hgt : ¬ (getT f h).pr ≤ (getT f c).pr)  : MemE PP cP 13 [] (f) (.tuple #[]) (upd (pushFrontF (dropF f h) c) 1 h) := by
 have hq0 := s.q
 have hhl := TT_thr.lo h hT
 have hcl := TT_thr.lo c hcT
 have hqc : (getT (dropF f h) c).q = false := by rw [((drop_S TT_thr s hT hq).2.1 c hcT).2, s.nc hcT]; simp
 obtain ⟨k0, p0, c0⟩ := hh
 obtain ⟨k1, p1, c1⟩ := cur_p s.ct s.cur
 obtain ⟨k2, p2, c2⟩ := mem1 (thr_p hT (hq0.thr h hT))
 obtain ⟨k3, p3, c3⟩ := mem1 (thr_p hcT (hq0.thr c hcT))
 obtain ⟨k4, p4, c4⟩ := drop_cp hq0 hT hq
 obtain ⟨k5, p5, c5⟩ := front_cp (drop_Q TT_thr s hT hq) hcT hqc
 obtain ⟨k6, p6, c6⟩ := scur_p (.inr hT) (pushFrontF (dropF f h) c)
 exact ⟨(((((((0 + k0) + k1) + k2) + k3) + k4) + k5) + k6), by omega, memC_x hC0 (by decide) settle2_p_run rfl (settle2_p_vs f c h (ksL [k0, k1, k2, k3, k4, k5, k6])) (settle2_p_rows f c h) fun st => ⟨(stp_add (k := ((((((0 + k0) + k1) + k2) + k3) + k4) + k5)) (m := k6) (stp_add (k := (((((0 + k0) + k1) + k2) + k3) + k4)) (m := k5) (stp_add (k := ((((0 + k0) + k1) + k2) + k3)) (m := k4) (stp_add (k := (((0 + k0) + k1) + k2)) (m := k3) (stp_add (k := ((0 + k0) + k1)) (m := k2) (stp_add (k := (0 + k0)) (m := k1) (stp_add (k := (0 : Nat)) (m := k0) rfl rfl p0) rfl p1) rfl p2) rfl p3) rfl p4) rfl p5) rfl p6), fa_list ⟨f_eqn (show (h : Int) ≠ 0 by omega), f_ne (show (c : Int) ≠ 0 by omega), f_len (show (getT f c).pr < (getT f h).pr by omega), trivial⟩ trivial,
  ⟨ent_y c0 p0 rfl (fun ρ => rfl) (fun ρ => rfl),
   ent_y c1 p1 rfl (fun ρ => rfl) (fun ρ => rfl),
   ent_y c2 p2 rfl (fun ρ => rfl) (fun ρ => tupT thA),
   ent_y c3 p3 rfl (fun ρ => rfl) (fun ρ => tupT thA),
   ent_y c4 p4 rfl (fun ρ => rfl) (fun ρ => rfl),
   ent_y c5 p5 rfl (fun ρ => rfl) (fun ρ => rfl),
   ent_y c6 p6 rfl (fun ρ => rfl) (fun ρ => rfl),
   trivial⟩,
  ps_list trivial, fun ρ => rfl, fun ρ => rfl⟩⟩
def settle3_p_vs (f : Nat → Int) (h : Nat) (ks : Nat → Int) : Nat → Int := fun i => match i / 100 with
 | 1 => (h : Int)
 | 2 => 0
 | 90 => ks (i % 100)
 | _ => 0
def settle3_p_rows (f : Nat → Int) (h : Nat) : Nat → Nat → Int := fun q => match q with
 | 0 => f
 | 1 => f
 | 2 => f
 | 3 => dropF f h
 | 4 => upd (dropF f h) 1 h
 | _ => f
theorem settle3_p_run : runX cx0 cP [⟨23, [], 1, (.si .i64 (.v 100)), (.v 9000)⟩,
 ⟨15, [], 2, (.si .i64 (.v 200)), (.v 9001)⟩,
 ⟨29, [(.si .i64 (.v 100))], 3, (.i .i64 0), (.v 9002)⟩,
 ⟨72, [(.si .i64 (.v 100))], 4, (.i .i64 0), (.v 9003)⟩]
 [] 13 [] ⟨[((.cmp .eql (.v 100) (.lit 0)), false), ((.cmp .neq (.v 200) (.lit 0)), false)], []⟩ (.tup []) 4 s4 = 0 := by decide +kernel
theorem settle3_p {Q : Nat → List Nat} {P : Nat → TV} {f : Nat → Int} (s : SS TT f Q P 0) {h : Nat} (hT : TT h) (hq : (getT f h).q = true) (hh : MemE PP cP 23 [] f (.int .i64 (h : Nat)) f)  : MemE PP cP 13 [] (f) (.tuple #[]) (upd (dropF f h) 1 h) := by
 have hq0 := s.q
 have hhl := TT_thr.lo h hT
 obtain ⟨k0, p0, c0⟩ := hh
 obtain ⟨k1, p1, c1⟩ := cur_p s.ct s.cur
 obtain ⟨k2, p2, c2⟩ := drop_cp hq0 hT hq
 obtain ⟨k3, p3, c3⟩ := scur_p (.inr hT) (dropF f h)
 exact ⟨((((0 + k0) + k1) + k2) + k3), by omega, memC_x hC0 (by decide) settle3_p_run rfl (settle3_p_vs f h (ksL [k0, k1, k2, k3])) (settle3_p_rows f h) fun st => ⟨(stp_add (k := (((0 + k0) + k1) + k2)) (m := k3) (stp_add (k := ((0 + k0) + k1)) (m := k2) (stp_add (k := (0 + k0)) (m := k1) (stp_add (k := (0 : Nat)) (m := k0) rfl rfl p0) rfl p1) rfl p2) rfl p3), fa_list ⟨f_eqn (show (h : Int) ≠ 0 by omega), f_nen rfl, trivial⟩ trivial,
  ⟨ent_y c0 p0 rfl (fun ρ => rfl) (fun ρ => rfl),
   ent_y c1 p1 rfl (fun ρ => rfl) (fun ρ => rfl),
   ent_y c2 p2 rfl (fun ρ => rfl) (fun ρ => rfl),
   ent_y c3 p3 rfl (fun ρ => rfl) (fun ρ => rfl),
   trivial⟩,
  ps_list trivial, fun ρ => rfl, fun ρ => rfl⟩⟩
theorem settle_cp (s : SS TT f Q P c) {h : Nat} (hT : TT h) (hq : (getT f h).q = true) (hh : MemE PP cP 23 [] f (.int .i64 (h : Nat)) f) : MemE PP cP 13 [] f (.tuple #[]) (settleA f h) := by
 unfold settleA
 rcases s.ct with rfl | hc
 ·rw [if_pos (show f 1 = 0 from s.cur)]; exact settle3_p s hT hq hh
 ·have := TT_thr.lo c hc
  rw [if_neg (show ¬ f 1 = 0 by rw [s.cur]; omega), cur_nat s]
  by_cases hle : (getT f h).pr ≤ (getT f c).pr
  ·rw [if_pos hle]; exact settle1_p s hT hq hh hc hle
  ·rw [if_neg hle]; exact settle2_p s hT hq hh hc hle
end Go.Ev.X
end
