/-
 Contracts of the scheduler: one is stopped (the document; state 0).
-/
import Derived.Test.YtkecfebodpkamaaGreatMSr
set_option linter.unusedSimpArgs false
set_option linter.unusedVariables false
set_option maxRecDepth 100000
noncomputable section
namespace Go.Ev.X
open Go Go.Ev Go.Proofs
variable {f : Nat → Int} {Q : Nat → List Nat} {P : Nat → TV} {c t : Nat}
def stop01_r_vs (f : Nat → Int) (t : Nat) (c : Nat) (ks : Nat → Int) : Nat → Int := fun i => match i / 100 with
 | 0 => (t : Int)
 | 1 => fldT (getT f t) (regs f t) (i % 100)
 | 3 => (c : Int)
 | 4 => fldT (getT (dropF f t) t) (regs (dropF f t) t) (i % 100)
 | 90 => ks (i % 100)
 | _ => 0
def stop01_r_rows (f : Nat → Int) (t : Nat) (c : Nat) : Nat → Nat → Int := fun q => match q with
 | 0 => f
 | 1 => f
 | 2 => dropF f t
 | 3 => dropF f t
 | 4 => dropF f t
 | 5 => setT (dropF f t) t { getT (dropF f t) t with st := 0 }
 | _ => f
theorem stop01_r_run : runX cx0 cR [⟨93, [(.si .i64 (.v 1))], 1, (.tup [(tD 100), (.i .i64 0)]), (.v 9000)⟩,
 ⟨78, [(.si .i64 (.v 1))], 2, (.i .i64 0), (.v 9001)⟩,
 ⟨76, [], 3, (.si .i64 (.v 300)), (.v 9002)⟩,
 ⟨93, [(.si .i64 (.v 1))], 4, (.tup [(tD 400), (.i .i64 0)]), (.v 9003)⟩,
 ⟨83, [(.si .i64 (.v 1)), (tA 400 (.i .i64 0) (sv 401) (sv 402) (tv 403) (sv 404) (sv 405) (sv 406) (sv 407) (tv 408) (tv 409) (sv 410) (sv 411) (sv 412) (sv 413))], 5, (.i .i64 0), (.v 9004)⟩]
 [] 47 [.si .i64 (.v 1), .i .i64 0] ⟨[((.cmp .eql (.v 100) (.lit 1)), true), ((.cmp .eql (.v 103) (.lit 1)), true), ((.cmp .eql (.v 300) (.v 1)), false)], []⟩ (.tup []) 5 s5 = 0 := by decide +kernel
theorem stop01_r (s : SS TT f Q P c) (ht : TT t) (hs : (getT f t).st = 1) (hq : (getT f t).q = true) (hc : t ≠ c)  : MemE PP cR 47 [.int .i64 t, .int .i64 0] (f) (.tuple #[]) (setT (dropF f t) t { getT (dropF f t) t with st := 0 }) := by
 have h := s.q
 have hv := getT_right (h.thr t ht)
 have htl := TT_thr.lo t ht
 have hth := TT_thr.hi t ht
 have q1 := drop_Q TT_thr s ht hq
 have dc := (drop_S TT_thr s ht hq).2.2
 have qg := q1
 have hv1 := right_st (getT_right (qg.thr t ht)) (x := 0) (by omega)
 obtain ⟨k0, p0, c0⟩ := mem1 (thr_r ht (h.thr t ht))
 obtain ⟨k1, p1, c1⟩ := drop_cr h ht hq
 obtain ⟨k2, p2, c2⟩ := cur_r s.ct dc
 obtain ⟨k3, p3, c3⟩ := mem1 (thr_r (f := dropF f t) ht (qg.thr t ht))
 obtain ⟨k4, p4, c4⟩ := mem1 (sth_r (f := dropF f t) ht hv1)
 exact ⟨(((((0 + k0) + k1) + k2) + k3) + k4), by omega, memC_x hC0 (by decide) stop01_r_run rfl (stop01_r_vs f t c (ksL [k0, k1, k2, k3, k4])) (stop01_r_rows f t c) fun st => ⟨(stp_add (k := ((((0 + k0) + k1) + k2) + k3)) (m := k4) (stp_add (k := (((0 + k0) + k1) + k2)) (m := k3) (stp_add (k := ((0 + k0) + k1)) (m := k2) (stp_add (k := (0 + k0)) (m := k1) (stp_add (k := (0 : Nat)) (m := k0) rfl rfl p0) rfl p1) rfl p2) rfl p3) rfl p4), fa_list ⟨f_eq hs, (sbq rfl).trans hq, f_eqn (show (c : Int) ≠ (t : Int) by omega), trivial⟩ trivial,
  ⟨ent_y c0 p0 rfl (fun ρ => rfl) (fun ρ => tupT thA),
   ent_y c1 p1 rfl (fun ρ => rfl) (fun ρ => rfl),
   ent_y c2 p2 rfl (fun ρ => rfl) (fun ρ => rfl),
   ent_y c3 p3 rfl (fun ρ => rfl) (fun ρ => tupT thA),
   ent_y c4 p4 rfl (fun ρ => arg2 rfl thA) (fun ρ => rfl),
   trivial⟩,
  ps_list trivial, fun ρ => rfl, fun ρ => rfl⟩⟩
def stop02_r_vs (f : Nat → Int) (t : Nat) (c : Nat) (ks : Nat → Int) : Nat → Int := fun i => match i / 100 with
 | 0 => (t : Int)
 | 1 => fldT (getT f t) (regs f t) (i % 100)
 | 2 => (c : Int)
 | 4 => fldT (getT (upd (f) 1 0) t) (regs (upd (f) 1 0) t) (i % 100)
 | 90 => ks (i % 100)
 | _ => 0
def stop02_r_rows (f : Nat → Int) (t : Nat) (c : Nat) : Nat → Nat → Int := fun q => match q with
 | 0 => f
 | 1 => f
 | 2 => f
 | 3 => upd (f) 1 0
 | 4 => upd (f) 1 0
 | 5 => setT (upd (f) 1 0) t { getT (upd (f) 1 0) t with st := 0 }
 | _ => f
theorem stop02_r_run : runX cx0 cR [⟨93, [(.si .i64 (.v 1))], 1, (.tup [(tD 100), (.i .i64 0)]), (.v 9000)⟩,
 ⟨76, [], 2, (.si .i64 (.v 200)), (.v 9001)⟩,
 ⟨79, [(.i .i64 0)], 3, (.i .i64 0), (.v 9002)⟩,
 ⟨93, [(.si .i64 (.v 1))], 4, (.tup [(tD 400), (.i .i64 0)]), (.v 9003)⟩,
 ⟨83, [(.si .i64 (.v 1)), (tA 400 (.i .i64 0) (sv 401) (sv 402) (tv 403) (sv 404) (sv 405) (sv 406) (sv 407) (tv 408) (tv 409) (sv 410) (sv 411) (sv 412) (sv 413))], 5, (.i .i64 0), (.v 9004)⟩]
 [] 47 [.si .i64 (.v 1), .i .i64 0] ⟨[((.cmp .eql (.v 100) (.lit 1)), true), ((.cmp .eql (.v 103) (.lit 1)), false), ((.cmp .eql (.v 200) (.v 1)), true)], []⟩ (.tup []) 5 s5 = 0 := by decide +kernel
theorem stop02_r (s : SS TT f Q P c) (ht : TT t) (hs : (getT f t).st = 1) (hq : (getT f t).q = false) (hc : t = c)  : MemE PP cR 47 [.int .i64 t, .int .i64 0] (f) (.tuple #[]) (setT (upd (f) 1 0) t { getT (upd (f) 1 0) t with st := 0 }) := by
 have h := s.q
 have hv := getT_right (h.thr t ht)
 have htl := TT_thr.lo t ht
 have hth := TT_thr.hi t ht
 have qg := q_upd1 TT_thr h 0
 have hv1 := right_st (getT_right (qg.thr t ht)) (x := 0) (by omega)
 obtain ⟨k0, p0, c0⟩ := mem1 (thr_r ht (h.thr t ht))
 obtain ⟨k1, p1, c1⟩ := cur_r s.ct s.cur
 obtain ⟨k2, p2, c2⟩ := scur_r (t := 0) (.inl rfl) (f)
 obtain ⟨k3, p3, c3⟩ := mem1 (thr_r (f := upd (f) 1 0) ht (qg.thr t ht))
 obtain ⟨k4, p4, c4⟩ := mem1 (sth_r (f := upd (f) 1 0) ht hv1)
 exact ⟨(((((0 + k0) + k1) + k2) + k3) + k4), by omega, memC_x hC0 (by decide) stop02_r_run rfl (stop02_r_vs f t c (ksL [k0, k1, k2, k3, k4])) (stop02_r_rows f t c) fun st => ⟨(stp_add (k := ((((0 + k0) + k1) + k2) + k3)) (m := k4) (stp_add (k := (((0 + k0) + k1) + k2)) (m := k3) (stp_add (k := ((0 + k0) + k1)) (m := k2) (stp_add (k := (0 + k0)) (m := k1) (stp_add (k := (0 : Nat)) (m := k0) rfl rfl p0) rfl p1) rfl p2) rfl p3) rfl p4), fa_list ⟨f_eq hs, (sbq rfl).trans hq, f_eq (show (c : Int) = (t : Int) by omega), trivial⟩ trivial,
  ⟨ent_y c0 p0 rfl (fun ρ => rfl) (fun ρ => tupT thA),
   ent_y c1 p1 rfl (fun ρ => rfl) (fun ρ => rfl),
   ent_y c2 p2 rfl (fun ρ => rfl) (fun ρ => rfl),
   ent_y c3 p3 rfl (fun ρ => rfl) (fun ρ => tupT thA),
   ent_y c4 p4 rfl (fun ρ => arg2 rfl thA) (fun ρ => rfl),
   trivial⟩,
  ps_list trivial, fun ρ => rfl, fun ρ => rfl⟩⟩
def stop03_r_vs (f : Nat → Int) (t : Nat) (c : Nat) (ks : Nat → Int) : Nat → Int := fun i => match i / 100 with
 | 0 => (t : Int)
 | 1 => fldT (getT f t) (regs f t) (i % 100)
 | 2 => (c : Int)
 | 3 => fldT (getT (f) t) (regs (f) t) (i % 100)
 | 90 => ks (i % 100)
 | _ => 0
def stop03_r_rows (f : Nat → Int) (t : Nat) (c : Nat) : Nat → Nat → Int := fun q => match q with
 | 0 => f
 | 1 => f
 | 2 => f
 | 3 => f
 | 4 => setT (f) t { getT (f) t with st := 0 }
 | _ => f
theorem stop03_r_run : runX cx0 cR [⟨93, [(.si .i64 (.v 1))], 1, (.tup [(tD 100), (.i .i64 0)]), (.v 9000)⟩,
 ⟨76, [], 2, (.si .i64 (.v 200)), (.v 9001)⟩,
 ⟨93, [(.si .i64 (.v 1))], 3, (.tup [(tD 300), (.i .i64 0)]), (.v 9002)⟩,
 ⟨83, [(.si .i64 (.v 1)), (tA 300 (.i .i64 0) (sv 301) (sv 302) (tv 303) (sv 304) (sv 305) (sv 306) (sv 307) (tv 308) (tv 309) (sv 310) (sv 311) (sv 312) (sv 313))], 4, (.i .i64 0), (.v 9003)⟩]
 [] 47 [.si .i64 (.v 1), .i .i64 0] ⟨[((.cmp .eql (.v 100) (.lit 1)), true), ((.cmp .eql (.v 103) (.lit 1)), false), ((.cmp .eql (.v 200) (.v 1)), false)], []⟩ (.tup []) 4 s4 = 0 := by decide +kernel
theorem stop03_r (s : SS TT f Q P c) (ht : TT t) (hs : (getT f t).st = 1) (hq : (getT f t).q = false) (hc : t ≠ c)  : MemE PP cR 47 [.int .i64 t, .int .i64 0] (f) (.tuple #[]) (setT (f) t { getT (f) t with st := 0 }) := by
 have h := s.q
 have hv := getT_right (h.thr t ht)
 have htl := TT_thr.lo t ht
 have hth := TT_thr.hi t ht
 have qg := h
 have hv1 := right_st (getT_right (qg.thr t ht)) (x := 0) (by omega)
 obtain ⟨k0, p0, c0⟩ := mem1 (thr_r ht (h.thr t ht))
 obtain ⟨k1, p1, c1⟩ := cur_r s.ct s.cur
 obtain ⟨k2, p2, c2⟩ := mem1 (thr_r (f := f) ht (qg.thr t ht))
 obtain ⟨k3, p3, c3⟩ := mem1 (sth_r (f := f) ht hv1)
 exact ⟨((((0 + k0) + k1) + k2) + k3), by omega, memC_x hC0 (by decide) stop03_r_run rfl (stop03_r_vs f t c (ksL [k0, k1, k2, k3])) (stop03_r_rows f t c) fun st => ⟨(stp_add (k := (((0 + k0) + k1) + k2)) (m := k3) (stp_add (k := ((0 + k0) + k1)) (m := k2) (stp_add (k := (0 + k0)) (m := k1) (stp_add (k := (0 : Nat)) (m := k0) rfl rfl p0) rfl p1) rfl p2) rfl p3), fa_list ⟨f_eq hs, (sbq rfl).trans hq, f_eqn (show (c : Int) ≠ (t : Int) by omega), trivial⟩ trivial,
  ⟨ent_y c0 p0 rfl (fun ρ => rfl) (fun ρ => tupT thA),
   ent_y c1 p1 rfl (fun ρ => rfl) (fun ρ => rfl),
   ent_y c2 p2 rfl (fun ρ => rfl) (fun ρ => tupT thA),
   ent_y c3 p3 rfl (fun ρ => arg2 rfl thA) (fun ρ => rfl),
   trivial⟩,
  ps_list trivial, fun ρ => rfl, fun ρ => rfl⟩⟩
def stop04_r_vs (f : Nat → Int) (t : Nat) (c : Nat) (ks : Nat → Int) : Nat → Int := fun i => match i / 100 with
 | 0 => (t : Int)
 | 1 => fldT (getT f t) (regs f t) (i % 100)
 | 2 => (c : Int)
 | 4 => fldT (getT (upd (f) 1 0) t) (regs (upd (f) 1 0) t) (i % 100)
 | 90 => ks (i % 100)
 | _ => 0
def stop04_r_rows (f : Nat → Int) (t : Nat) (c : Nat) : Nat → Nat → Int := fun q => match q with
 | 0 => f
 | 1 => f
 | 2 => f
 | 3 => upd (f) 1 0
 | 4 => upd (f) 1 0
 | 5 => setT (upd (f) 1 0) t { getT (upd (f) 1 0) t with st := 0 }
 | _ => f
theorem stop04_r_run : runX cx0 cR [⟨93, [(.si .i64 (.v 1))], 1, (.tup [(tD 100), (.i .i64 0)]), (.v 9000)⟩,
 ⟨76, [], 2, (.si .i64 (.v 200)), (.v 9001)⟩,
 ⟨79, [(.i .i64 0)], 3, (.i .i64 0), (.v 9002)⟩,
 ⟨93, [(.si .i64 (.v 1))], 4, (.tup [(tD 400), (.i .i64 0)]), (.v 9003)⟩,
 ⟨83, [(.si .i64 (.v 1)), (tA 400 (.i .i64 0) (sv 401) (sv 402) (tv 403) (sv 404) (sv 405) (sv 406) (sv 407) (tv 408) (tv 409) (sv 410) (sv 411) (sv 412) (sv 413))], 5, (.i .i64 0), (.v 9004)⟩]
 [] 47 [.si .i64 (.v 1), .i .i64 0] ⟨[((.cmp .eql (.v 100) (.lit 1)), false), ((.cmp .eql (.v 200) (.v 1)), true)], []⟩ (.tup []) 5 s5 = 0 := by decide +kernel
theorem stop04_r (s : SS TT f Q P c) (ht : TT t) (hs : (getT f t).st ≠ 1) (hq : (getT f t).q = false) (hc : t = c)  : MemE PP cR 47 [.int .i64 t, .int .i64 0] (f) (.tuple #[]) (setT (upd (f) 1 0) t { getT (upd (f) 1 0) t with st := 0 }) := by
 have h := s.q
 have hv := getT_right (h.thr t ht)
 have htl := TT_thr.lo t ht
 have hth := TT_thr.hi t ht
 have qg := q_upd1 TT_thr h 0
 have hv1 := right_st (getT_right (qg.thr t ht)) (x := 0) (by omega)
 obtain ⟨k0, p0, c0⟩ := mem1 (thr_r ht (h.thr t ht))
 obtain ⟨k1, p1, c1⟩ := cur_r s.ct s.cur
 obtain ⟨k2, p2, c2⟩ := scur_r (t := 0) (.inl rfl) (f)
 obtain ⟨k3, p3, c3⟩ := mem1 (thr_r (f := upd (f) 1 0) ht (qg.thr t ht))
 obtain ⟨k4, p4, c4⟩ := mem1 (sth_r (f := upd (f) 1 0) ht hv1)
 exact ⟨(((((0 + k0) + k1) + k2) + k3) + k4), by omega, memC_x hC0 (by decide) stop04_r_run rfl (stop04_r_vs f t c (ksL [k0, k1, k2, k3, k4])) (stop04_r_rows f t c) fun st => ⟨(stp_add (k := ((((0 + k0) + k1) + k2) + k3)) (m := k4) (stp_add (k := (((0 + k0) + k1) + k2)) (m := k3) (stp_add (k := ((0 + k0) + k1)) (m := k2) (stp_add (k := (0 + k0)) (m := k1) (stp_add (k := (0 : Nat)) (m := k0) rfl rfl p0) rfl p1) rfl p2) rfl p3) rfl p4), fa_list ⟨f_eqn hs, f_eq (show (c : Int) = (t : Int) by omega), trivial⟩ trivial,
  ⟨ent_y c0 p0 rfl (fun ρ => rfl) (fun ρ => tupT thA),
   ent_y c1 p1 rfl (fun ρ => rfl) (fun ρ => rfl),
   ent_y c2 p2 rfl (fun ρ => rfl) (fun ρ => rfl),
   ent_y c3 p3 rfl (fun ρ => rfl) (fun ρ => tupT thA),
   ent_y c4 p4 rfl (fun ρ => arg2 rfl thA) (fun ρ => rfl),
   trivial⟩,
  ps_list trivial, fun ρ => rfl, fun ρ => rfl⟩⟩
def stop05_r_vs (f : Nat → Int) (t : Nat) (c : Nat) (ks : Nat → Int) : Nat → Int := fun i => match i / 100 with
 | 0 => (t : Int)
 | 1 => fldT (getT f t) (regs f t) (i % 100)
 | 2 => (c : Int)
 | 3 => fldT (getT (f) t) (regs (f) t) (i % 100)
 | 90 => ks (i % 100)
 | _ => 0
def stop05_r_rows (f : Nat → Int) (t : Nat) (c : Nat) : Nat → Nat → Int := fun q => match q with
 | 0 => f
 | 1 => f
 | 2 => f
 | 3 => f
 | 4 => setT (f) t { getT (f) t with st := 0 }
 | _ => f
theorem stop05_r_run : runX cx0 cR [⟨93, [(.si .i64 (.v 1))], 1, (.tup [(tD 100), (.i .i64 0)]), (.v 9000)⟩,
 ⟨76, [], 2, (.si .i64 (.v 200)), (.v 9001)⟩,
 ⟨93, [(.si .i64 (.v 1))], 3, (.tup [(tD 300), (.i .i64 0)]), (.v 9002)⟩,
 ⟨83, [(.si .i64 (.v 1)), (tA 300 (.i .i64 0) (sv 301) (sv 302) (tv 303) (sv 304) (sv 305) (sv 306) (sv 307) (tv 308) (tv 309) (sv 310) (sv 311) (sv 312) (sv 313))], 4, (.i .i64 0), (.v 9003)⟩]
 [] 47 [.si .i64 (.v 1), .i .i64 0] ⟨[((.cmp .eql (.v 100) (.lit 1)), false), ((.cmp .eql (.v 200) (.v 1)), false)], []⟩ (.tup []) 4 s4 = 0 := by decide +kernel
theorem stop05_r (s : SS TT f Q P c) (ht : TT t) (hs : (getT f t).st ≠ 1) (hq : (getT f t).q = false) (hc : t ≠ c)  : MemE PP cR 47 [.int .i64 t, .int .i64 0] (f) (.tuple #[]) (setT (f) t { getT (f) t with st := 0 }) := by
 have h := s.q
 have hv := getT_right (h.thr t ht)
 have htl := TT_thr.lo t ht
 have hth := TT_thr.hi t ht
 have qg := h
 have hv1 := right_st (getT_right (qg.thr t ht)) (x := 0) (by omega)
 obtain ⟨k0, p0, c0⟩ := mem1 (thr_r ht (h.thr t ht))
 obtain ⟨k1, p1, c1⟩ := cur_r s.ct s.cur
 obtain ⟨k2, p2, c2⟩ := mem1 (thr_r (f := f) ht (qg.thr t ht))
 obtain ⟨k3, p3, c3⟩ := mem1 (sth_r (f := f) ht hv1)
 exact ⟨((((0 + k0) + k1) + k2) + k3), by omega, memC_x hC0 (by decide) stop05_r_run rfl (stop05_r_vs f t c (ksL [k0, k1, k2, k3])) (stop05_r_rows f t c) fun st => ⟨(stp_add (k := (((0 + k0) + k1) + k2)) (m := k3) (stp_add (k := ((0 + k0) + k1)) (m := k2) (stp_add (k := (0 + k0)) (m := k1) (stp_add (k := (0 : Nat)) (m := k0) rfl rfl p0) rfl p1) rfl p2) rfl p3), fa_list ⟨f_eqn hs, f_eqn (show (c : Int) ≠ (t : Int) by omega), trivial⟩ trivial,
  ⟨ent_y c0 p0 rfl (fun ρ => rfl) (fun ρ => tupT thA),
   ent_y c1 p1 rfl (fun ρ => rfl) (fun ρ => rfl),
   ent_y c2 p2 rfl (fun ρ => rfl) (fun ρ => tupT thA),
   ent_y c3 p3 rfl (fun ρ => arg2 rfl thA) (fun ρ => rfl),
   trivial⟩,
  ps_list trivial, fun ρ => rfl, fun ρ => rfl⟩⟩
theorem stop0_cr (s : SS TT f Q P c) (ht : TT t) : MemE PP cR 47 [.int .i64 t, .int .i64 0] f (.tuple #[]) (stopF f t 0) := by
 have hrun := s.run t ht
 unfold stopF stopB stopA
 cases hq : (getT f t).q with
 | true =>
  have hc : t ≠ c := fun e => by
   have := s.nc (e ▸ ht)
   rw [← e, hq] at this; cases this
  have hs : (getT f t).st = 1 := by rw [s.st ht]; exact hrun.2 (.inr hq)
  rw [if_neg (show ¬ f 1 = (t : Int) by rw [s.cur]; omega), if_pos rfl]
  exact stop01_r s ht hs hq hc
 | false =>
  rw [if_neg (show ¬ false = true by simp)]
  by_cases hc : t = c
  ·rw [if_pos (show f 1 = (t : Int) by rw [s.cur, hc])]
   by_cases hs : (getT f t).st = 1
   ·exact stop02_r s ht hs hq hc
   ·exact stop04_r s ht hs hq hc
  ·rw [if_neg (show ¬ f 1 = (t : Int) by rw [s.cur]; omega)]
   by_cases hs : (getT f t).st = 1
   ·exact stop03_r s ht hs hq hc
   ·exact stop05_r s ht hs hq hc
end Go.Ev.X
end
