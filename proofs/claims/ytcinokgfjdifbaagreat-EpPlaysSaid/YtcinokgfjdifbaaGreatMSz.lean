import Derived.Test.YtcinokgfjdifbaaGreatMSp
import Derived.Test.YtcinokgfjdifbaaGreatMSr
set_option linter.unusedSimpArgs false
set_option linter.unusedVariables false
set_option maxRecDepth 100000
noncomputable section
namespace Go.Ev.X
open Go Go.Ev Go.Proofs
variable {TT : Nat -> Prop} [SubT TT]
variable {f : Nat -> Int} {Q : Nat -> List Nat} {P : Nat -> TV} {c t : Nat}
def zll (f : Nat -> Int) (t : Nat) (c : Nat) (ks : Nat -> Int) : Nat -> Int := fun i => match i / 100 with
 | 0 => (t : Int)
 | 1 => ym (za f t) (zq f t) (i % 100)
 | 3 => (c : Int)
 | 4 => ym (za (zZ f t) t) (zq (zZ f t) t) (i % 100)
 | 90 => ks (i % 100)
 | _ => 0
def zia (f : Nat -> Int) (t : Nat) (c : Nat) : Nat -> Nat -> Int := fun q => match q with
 | 0 => f
 | 1 => f
 | 2 => zZ f t
 | 3 => zZ f t
 | 4 => zZ f t
 | 5 => zg (zZ f t) t { za (zZ f t) t with st := 0 }
 | _ => f
theorem zjM : yN cx0 cP [⟨13, [(.si .i64 (.v 1))], 1, (.tup [(tD 100), (.i .i64 0)]), (.v 9000)⟩,
 ⟨71, [(.si .i64 (.v 1))], 2, (.i .i64 0), (.v 9001)⟩,
 ⟨95, [], 3, (.si .i64 (.v 300)), (.v 9002)⟩,
 ⟨13, [(.si .i64 (.v 1))], 4, (.tup [(tD 400), (.i .i64 0)]), (.v 9003)⟩,
 ⟨59, [(.si .i64 (.v 1)), (tA 400 (.i .i64 0) (sv 401) (sv 402) (tv 403) (sv 404) (sv 405) (sv 406) (sv 407) (tv 408) (tv 409) (sv 410) (sv 411) (sv 412) (sv 413))], 5, (.i .i64 0), (.v 9004)⟩]
 [] 56 [.si .i64 (.v 1), .i .i64 0] ⟨[((.cmp .eql (.v 100) (.lit 1)), true), ((.cmp .eql (.v 103) (.lit 1)), true), ((.cmp .eql (.v 300) (.v 1)), false)], []⟩ (.tup []) 5 s5 = 0 := by decide +kernel
theorem zq1 (s : SS TT f Q P c) (ht : TT t) (hs : (za f t).st = 1) (hq : (za f t).q = true) (hc : t ≠ c)  : zJ PP cP 56 [.int .i64 t, .int .i64 0] (f) (.tuple #[]) (zg (zZ f t) t { za (zZ f t) t with st := 0 }) := by
 have h := s.q
 have hv := zh (h.thr t ht)
 have htl := zd.lo t ht
 have hth := zd.hi t ht
 have q1 := zhH zd s ht hq
 have dc := (zdx zd s ht hq).2.2
 have qg := q1
 have hv1 := zae (zh (qg.thr t ht)) (x := 0) (by omega)
 obtain ⟨k0, p0, c0⟩ := zH (ju ht (h.thr t ht))
 obtain ⟨k1, p1, c1⟩ := zkA h ht hq
 obtain ⟨k2, p2, c2⟩ := zdy s.ct dc
 obtain ⟨k3, p3, c3⟩ := zH (ju (f := zZ f t) ht (qg.thr t ht))
 obtain ⟨k4, p4, c4⟩ := zH (zar (f := zZ f t) ht hv1)
 exact ⟨(((((0 + k0) + k1) + k2) + k3) + k4), by omega, zD hC0 (by decide) zjM rfl (zll f t c (ksL [k0, k1, k2, k3, k4])) (zia f t c) fun st => ⟨(zc (k := ((((0 + k0) + k1) + k2) + k3)) (m := k4) (zc (k := (((0 + k0) + k1) + k2)) (m := k3) (zc (k := ((0 + k0) + k1)) (m := k2) (zc (k := (0 + k0)) (m := k1) (zc (k := (0 : Nat)) (m := k0) rfl rfl p0) rfl p1) rfl p2) rfl p3) rfl p4), zm ⟨zac hs, (sbq rfl).trans hq, yK (show (c : Int) ≠ (t : Int) by omega), trivial⟩ trivial,
  ⟨zi c0 p0 rfl (fun ρ => rfl) (fun ρ => yC thA),
   zi c1 p1 rfl (fun ρ => rfl) (fun ρ => rfl),
   zi c2 p2 rfl (fun ρ => rfl) (fun ρ => rfl),
   zi c3 p3 rfl (fun ρ => rfl) (fun ρ => yC thA),
   zi c4 p4 rfl (fun ρ => je rfl thA) (fun ρ => rfl),
   trivial⟩,
  zn trivial, fun ρ => rfl, fun ρ => rfl⟩⟩
def zlj (f : Nat -> Int) (t : Nat) (c : Nat) (ks : Nat -> Int) : Nat -> Int := fun i => match i / 100 with
 | 0 => (t : Int)
 | 1 => ym (za f t) (zq f t) (i % 100)
 | 2 => (c : Int)
 | 4 => ym (za (upd (f) 1 0) t) (zq (upd (f) 1 0) t) (i % 100)
 | 90 => ks (i % 100)
 | _ => 0
def zh8 (f : Nat -> Int) (t : Nat) (c : Nat) : Nat -> Nat -> Int := fun q => match q with
 | 0 => f
 | 1 => f
 | 2 => f
 | 3 => upd (f) 1 0
 | 4 => upd (f) 1 0
 | 5 => zg (upd (f) 1 0) t { za (upd (f) 1 0) t with st := 0 }
 | _ => f
theorem zjK : yN cx0 cP [⟨13, [(.si .i64 (.v 1))], 1, (.tup [(tD 100), (.i .i64 0)]), (.v 9000)⟩,
 ⟨95, [], 2, (.si .i64 (.v 200)), (.v 9001)⟩,
 ⟨110, [(.i .i64 0)], 3, (.i .i64 0), (.v 9002)⟩,
 ⟨13, [(.si .i64 (.v 1))], 4, (.tup [(tD 400), (.i .i64 0)]), (.v 9003)⟩,
 ⟨59, [(.si .i64 (.v 1)), (tA 400 (.i .i64 0) (sv 401) (sv 402) (tv 403) (sv 404) (sv 405) (sv 406) (sv 407) (tv 408) (tv 409) (sv 410) (sv 411) (sv 412) (sv 413))], 5, (.i .i64 0), (.v 9004)⟩]
 [] 56 [.si .i64 (.v 1), .i .i64 0] ⟨[((.cmp .eql (.v 100) (.lit 1)), true), ((.cmp .eql (.v 103) (.lit 1)), false), ((.cmp .eql (.v 200) (.v 1)), true)], []⟩ (.tup []) 5 s5 = 0 := by decide +kernel
theorem zqZ (s : SS TT f Q P c) (ht : TT t) (hs : (za f t).st = 1) (hq : (za f t).q = false) (hc : t = c)  : zJ PP cP 56 [.int .i64 t, .int .i64 0] (f) (.tuple #[]) (zg (upd (f) 1 0) t { za (upd (f) 1 0) t with st := 0 }) := by
 have h := s.q
 have hv := zh (h.thr t ht)
 have htl := zd.lo t ht
 have hth := zd.hi t ht
 have qg := zec zd h 0
 have hv1 := zae (zh (qg.thr t ht)) (x := 0) (by omega)
 obtain ⟨k0, p0, c0⟩ := zH (ju ht (h.thr t ht))
 obtain ⟨k1, p1, c1⟩ := zdy s.ct s.cur
 obtain ⟨k2, p2, c2⟩ := zjY (TT := TT) (t := 0) (.inl rfl) (f)
 obtain ⟨k3, p3, c3⟩ := zH (ju (f := upd (f) 1 0) ht (qg.thr t ht))
 obtain ⟨k4, p4, c4⟩ := zH (zar (f := upd (f) 1 0) ht hv1)
 exact ⟨(((((0 + k0) + k1) + k2) + k3) + k4), by omega, zD hC0 (by decide) zjK rfl (zlj f t c (ksL [k0, k1, k2, k3, k4])) (zh8 f t c) fun st => ⟨(zc (k := ((((0 + k0) + k1) + k2) + k3)) (m := k4) (zc (k := (((0 + k0) + k1) + k2)) (m := k3) (zc (k := ((0 + k0) + k1)) (m := k2) (zc (k := (0 + k0)) (m := k1) (zc (k := (0 : Nat)) (m := k0) rfl rfl p0) rfl p1) rfl p2) rfl p3) rfl p4), zm ⟨zac hs, (sbq rfl).trans hq, zac (show (c : Int) = (t : Int) by omega), trivial⟩ trivial,
  ⟨zi c0 p0 rfl (fun ρ => rfl) (fun ρ => yC thA),
   zi c1 p1 rfl (fun ρ => rfl) (fun ρ => rfl),
   zi c2 p2 rfl (fun ρ => rfl) (fun ρ => rfl),
   zi c3 p3 rfl (fun ρ => rfl) (fun ρ => yC thA),
   zi c4 p4 rfl (fun ρ => je rfl thA) (fun ρ => rfl),
   trivial⟩,
  zn trivial, fun ρ => rfl, fun ρ => rfl⟩⟩
def zlh (f : Nat -> Int) (t : Nat) (c : Nat) (ks : Nat -> Int) : Nat -> Int := fun i => match i / 100 with
 | 0 => (t : Int)
 | 1 => ym (za f t) (zq f t) (i % 100)
 | 2 => (c : Int)
 | 3 => ym (za (f) t) (zq (f) t) (i % 100)
 | 90 => ks (i % 100)
 | _ => 0
def zh6 (f : Nat -> Int) (t : Nat) (c : Nat) : Nat -> Nat -> Int := fun q => match q with
 | 0 => f
 | 1 => f
 | 2 => f
 | 3 => f
 | 4 => zg (f) t { za (f) t with st := 0 }
 | _ => f
theorem zjI : yN cx0 cP [⟨13, [(.si .i64 (.v 1))], 1, (.tup [(tD 100), (.i .i64 0)]), (.v 9000)⟩,
 ⟨95, [], 2, (.si .i64 (.v 200)), (.v 9001)⟩,
 ⟨13, [(.si .i64 (.v 1))], 3, (.tup [(tD 300), (.i .i64 0)]), (.v 9002)⟩,
 ⟨59, [(.si .i64 (.v 1)), (tA 300 (.i .i64 0) (sv 301) (sv 302) (tv 303) (sv 304) (sv 305) (sv 306) (sv 307) (tv 308) (tv 309) (sv 310) (sv 311) (sv 312) (sv 313))], 4, (.i .i64 0), (.v 9003)⟩]
 [] 56 [.si .i64 (.v 1), .i .i64 0] ⟨[((.cmp .eql (.v 100) (.lit 1)), true), ((.cmp .eql (.v 103) (.lit 1)), false), ((.cmp .eql (.v 200) (.v 1)), false)], []⟩ (.tup []) 4 s4 = 0 := by decide +kernel
theorem zqX (s : SS TT f Q P c) (ht : TT t) (hs : (za f t).st = 1) (hq : (za f t).q = false) (hc : t ≠ c)  : zJ PP cP 56 [.int .i64 t, .int .i64 0] (f) (.tuple #[]) (zg (f) t { za (f) t with st := 0 }) := by
 have h := s.q
 have hv := zh (h.thr t ht)
 have htl := zd.lo t ht
 have hth := zd.hi t ht
 have qg := h
 have hv1 := zae (zh (qg.thr t ht)) (x := 0) (by omega)
 obtain ⟨k0, p0, c0⟩ := zH (ju ht (h.thr t ht))
 obtain ⟨k1, p1, c1⟩ := zdy s.ct s.cur
 obtain ⟨k2, p2, c2⟩ := zH (ju (f := f) ht (qg.thr t ht))
 obtain ⟨k3, p3, c3⟩ := zH (zar (f := f) ht hv1)
 exact ⟨((((0 + k0) + k1) + k2) + k3), by omega, zD hC0 (by decide) zjI rfl (zlh f t c (ksL [k0, k1, k2, k3])) (zh6 f t c) fun st => ⟨(zc (k := (((0 + k0) + k1) + k2)) (m := k3) (zc (k := ((0 + k0) + k1)) (m := k2) (zc (k := (0 + k0)) (m := k1) (zc (k := (0 : Nat)) (m := k0) rfl rfl p0) rfl p1) rfl p2) rfl p3), zm ⟨zac hs, (sbq rfl).trans hq, yK (show (c : Int) ≠ (t : Int) by omega), trivial⟩ trivial,
  ⟨zi c0 p0 rfl (fun ρ => rfl) (fun ρ => yC thA),
   zi c1 p1 rfl (fun ρ => rfl) (fun ρ => rfl),
   zi c2 p2 rfl (fun ρ => rfl) (fun ρ => yC thA),
   zi c3 p3 rfl (fun ρ => je rfl thA) (fun ρ => rfl),
   trivial⟩,
  zn trivial, fun ρ => rfl, fun ρ => rfl⟩⟩
def zlf (f : Nat -> Int) (t : Nat) (c : Nat) (ks : Nat -> Int) : Nat -> Int := fun i => match i / 100 with
 | 0 => (t : Int)
 | 1 => ym (za f t) (zq f t) (i % 100)
 | 2 => (c : Int)
 | 4 => ym (za (upd (f) 1 0) t) (zq (upd (f) 1 0) t) (i % 100)
 | 90 => ks (i % 100)
 | _ => 0
def zh4 (f : Nat -> Int) (t : Nat) (c : Nat) : Nat -> Nat -> Int := fun q => match q with
 | 0 => f
 | 1 => f
 | 2 => f
 | 3 => upd (f) 1 0
 | 4 => upd (f) 1 0
 | 5 => zg (upd (f) 1 0) t { za (upd (f) 1 0) t with st := 0 }
 | _ => f
theorem zjG : yN cx0 cP [⟨13, [(.si .i64 (.v 1))], 1, (.tup [(tD 100), (.i .i64 0)]), (.v 9000)⟩,
 ⟨95, [], 2, (.si .i64 (.v 200)), (.v 9001)⟩,
 ⟨110, [(.i .i64 0)], 3, (.i .i64 0), (.v 9002)⟩,
 ⟨13, [(.si .i64 (.v 1))], 4, (.tup [(tD 400), (.i .i64 0)]), (.v 9003)⟩,
 ⟨59, [(.si .i64 (.v 1)), (tA 400 (.i .i64 0) (sv 401) (sv 402) (tv 403) (sv 404) (sv 405) (sv 406) (sv 407) (tv 408) (tv 409) (sv 410) (sv 411) (sv 412) (sv 413))], 5, (.i .i64 0), (.v 9004)⟩]
 [] 56 [.si .i64 (.v 1), .i .i64 0] ⟨[((.cmp .eql (.v 100) (.lit 1)), false), ((.cmp .eql (.v 200) (.v 1)), true)], []⟩ (.tup []) 5 s5 = 0 := by decide +kernel
theorem zqV (s : SS TT f Q P c) (ht : TT t) (hs : (za f t).st ≠ 1) (hq : (za f t).q = false) (hc : t = c)  : zJ PP cP 56 [.int .i64 t, .int .i64 0] (f) (.tuple #[]) (zg (upd (f) 1 0) t { za (upd (f) 1 0) t with st := 0 }) := by
 have h := s.q
 have hv := zh (h.thr t ht)
 have htl := zd.lo t ht
 have hth := zd.hi t ht
 have qg := zec zd h 0
 have hv1 := zae (zh (qg.thr t ht)) (x := 0) (by omega)
 obtain ⟨k0, p0, c0⟩ := zH (ju ht (h.thr t ht))
 obtain ⟨k1, p1, c1⟩ := zdy s.ct s.cur
 obtain ⟨k2, p2, c2⟩ := zjY (TT := TT) (t := 0) (.inl rfl) (f)
 obtain ⟨k3, p3, c3⟩ := zH (ju (f := upd (f) 1 0) ht (qg.thr t ht))
 obtain ⟨k4, p4, c4⟩ := zH (zar (f := upd (f) 1 0) ht hv1)
 exact ⟨(((((0 + k0) + k1) + k2) + k3) + k4), by omega, zD hC0 (by decide) zjG rfl (zlf f t c (ksL [k0, k1, k2, k3, k4])) (zh4 f t c) fun st => ⟨(zc (k := ((((0 + k0) + k1) + k2) + k3)) (m := k4) (zc (k := (((0 + k0) + k1) + k2)) (m := k3) (zc (k := ((0 + k0) + k1)) (m := k2) (zc (k := (0 + k0)) (m := k1) (zc (k := (0 : Nat)) (m := k0) rfl rfl p0) rfl p1) rfl p2) rfl p3) rfl p4), zm ⟨yK hs, zac (show (c : Int) = (t : Int) by omega), trivial⟩ trivial,
  ⟨zi c0 p0 rfl (fun ρ => rfl) (fun ρ => yC thA),
   zi c1 p1 rfl (fun ρ => rfl) (fun ρ => rfl),
   zi c2 p2 rfl (fun ρ => rfl) (fun ρ => rfl),
   zi c3 p3 rfl (fun ρ => rfl) (fun ρ => yC thA),
   zi c4 p4 rfl (fun ρ => je rfl thA) (fun ρ => rfl),
   trivial⟩,
  zn trivial, fun ρ => rfl, fun ρ => rfl⟩⟩
def zld (f : Nat -> Int) (t : Nat) (c : Nat) (ks : Nat -> Int) : Nat -> Int := fun i => match i / 100 with
 | 0 => (t : Int)
 | 1 => ym (za f t) (zq f t) (i % 100)
 | 2 => (c : Int)
 | 3 => ym (za (f) t) (zq (f) t) (i % 100)
 | 90 => ks (i % 100)
 | _ => 0
def zh2 (f : Nat -> Int) (t : Nat) (c : Nat) : Nat -> Nat -> Int := fun q => match q with
 | 0 => f
 | 1 => f
 | 2 => f
 | 3 => f
 | 4 => zg (f) t { za (f) t with st := 0 }
 | _ => f
theorem zjE : yN cx0 cP [⟨13, [(.si .i64 (.v 1))], 1, (.tup [(tD 100), (.i .i64 0)]), (.v 9000)⟩,
 ⟨95, [], 2, (.si .i64 (.v 200)), (.v 9001)⟩,
 ⟨13, [(.si .i64 (.v 1))], 3, (.tup [(tD 300), (.i .i64 0)]), (.v 9002)⟩,
 ⟨59, [(.si .i64 (.v 1)), (tA 300 (.i .i64 0) (sv 301) (sv 302) (tv 303) (sv 304) (sv 305) (sv 306) (sv 307) (tv 308) (tv 309) (sv 310) (sv 311) (sv 312) (sv 313))], 4, (.i .i64 0), (.v 9003)⟩]
 [] 56 [.si .i64 (.v 1), .i .i64 0] ⟨[((.cmp .eql (.v 100) (.lit 1)), false), ((.cmp .eql (.v 200) (.v 1)), false)], []⟩ (.tup []) 4 s4 = 0 := by decide +kernel
theorem zqT (s : SS TT f Q P c) (ht : TT t) (hs : (za f t).st ≠ 1) (hq : (za f t).q = false) (hc : t ≠ c)  : zJ PP cP 56 [.int .i64 t, .int .i64 0] (f) (.tuple #[]) (zg (f) t { za (f) t with st := 0 }) := by
 have h := s.q
 have hv := zh (h.thr t ht)
 have htl := zd.lo t ht
 have hth := zd.hi t ht
 have qg := h
 have hv1 := zae (zh (qg.thr t ht)) (x := 0) (by omega)
 obtain ⟨k0, p0, c0⟩ := zH (ju ht (h.thr t ht))
 obtain ⟨k1, p1, c1⟩ := zdy s.ct s.cur
 obtain ⟨k2, p2, c2⟩ := zH (ju (f := f) ht (qg.thr t ht))
 obtain ⟨k3, p3, c3⟩ := zH (zar (f := f) ht hv1)
 exact ⟨((((0 + k0) + k1) + k2) + k3), by omega, zD hC0 (by decide) zjE rfl (zld f t c (ksL [k0, k1, k2, k3])) (zh2 f t c) fun st => ⟨(zc (k := (((0 + k0) + k1) + k2)) (m := k3) (zc (k := ((0 + k0) + k1)) (m := k2) (zc (k := (0 + k0)) (m := k1) (zc (k := (0 : Nat)) (m := k0) rfl rfl p0) rfl p1) rfl p2) rfl p3), zm ⟨yK hs, yK (show (c : Int) ≠ (t : Int) by omega), trivial⟩ trivial,
  ⟨zi c0 p0 rfl (fun ρ => rfl) (fun ρ => yC thA),
   zi c1 p1 rfl (fun ρ => rfl) (fun ρ => rfl),
   zi c2 p2 rfl (fun ρ => rfl) (fun ρ => yC thA),
   zi c3 p3 rfl (fun ρ => je rfl thA) (fun ρ => rfl),
   trivial⟩,
  zn trivial, fun ρ => rfl, fun ρ => rfl⟩⟩
theorem zqR (s : SS TT f Q P c) (ht : TT t) : zJ PP cP 56 [.int .i64 t, .int .i64 0] f (.tuple #[]) (zd0 f t 0) := by
 have zv := s.run t ht
 unfold zd0 zbM zcU
 cases hq : (za f t).q with
 | true =>
  have hc : t ≠ c := fun e => by
   have := s.nc (e ▸ ht)
   rw [<- e, hq] at this; cases this
  have hs : (za f t).st = 1 := by rw [s.st ht]; exact zv.2 (.inr hq)
  rw [if_neg (show ¬ f 1 = (t : Int) by rw [s.cur]; omega), if_pos rfl]
  exact zq1 s ht hs hq hc
 | false =>
  rw [if_neg (show ¬ false = true by simp)]
  by_cases hc : t = c
  ·rw [if_pos (show f 1 = (t : Int) by rw [s.cur, hc])]
   by_cases hs : (za f t).st = 1
   ·exact zqZ s ht hs hq hc
   ·exact zqV s ht hs hq hc
  ·rw [if_neg (show ¬ f 1 = (t : Int) by rw [s.cur]; omega)]
   by_cases hs : (za f t).st = 1
   ·exact zqX s ht hs hq hc
   ·exact zqT s ht hs hq hc
end Go.Ev.X
end
set_option linter.unusedSimpArgs false
set_option linter.unusedVariables false
set_option maxRecDepth 100000
noncomputable section
namespace Go.Ev.X
open Go Go.Ev Go.Proofs
variable {TT : Nat -> Prop} [SubT TT]
variable {f : Nat -> Int} {Q : Nat -> List Nat} {P : Nat -> TV} {c t : Nat}
def zlk (f : Nat -> Int) (t : Nat) (c : Nat) (ks : Nat -> Int) : Nat -> Int := fun i => match i / 100 with
 | 0 => (t : Int)
 | 1 => ym (za f t) (zq f t) (i % 100)
 | 3 => (c : Int)
 | 4 => ym (za (zZ f t) t) (zq (zZ f t) t) (i % 100)
 | 90 => ks (i % 100)
 | _ => 0
def zh9 (f : Nat -> Int) (t : Nat) (c : Nat) : Nat -> Nat -> Int := fun q => match q with
 | 0 => f
 | 1 => f
 | 2 => zZ f t
 | 3 => zZ f t
 | 4 => zZ f t
 | 5 => zg (zZ f t) t { za (zZ f t) t with st := 0 }
 | _ => f
theorem zjL : yN cx0 cR [⟨62, [(.si .i64 (.v 1))], 1, (.tup [(tD 100), (.i .i64 0)]), (.v 9000)⟩,
 ⟨75, [(.si .i64 (.v 1))], 2, (.i .i64 0), (.v 9001)⟩,
 ⟨67, [], 3, (.si .i64 (.v 300)), (.v 9002)⟩,
 ⟨62, [(.si .i64 (.v 1))], 4, (.tup [(tD 400), (.i .i64 0)]), (.v 9003)⟩,
 ⟨83, [(.si .i64 (.v 1)), (tA 400 (.i .i64 0) (sv 401) (sv 402) (tv 403) (sv 404) (sv 405) (sv 406) (sv 407) (tv 408) (tv 409) (sv 410) (sv 411) (sv 412) (sv 413))], 5, (.i .i64 0), (.v 9004)⟩]
 [] 57 [.si .i64 (.v 1), .i .i64 0] ⟨[((.cmp .eql (.v 100) (.lit 1)), true), ((.cmp .eql (.v 103) (.lit 1)), true), ((.cmp .eql (.v 300) (.v 1)), false)], []⟩ (.tup []) 5 s5 = 0 := by decide +kernel
theorem zq0 (s : SS TT f Q P c) (ht : TT t) (hs : (za f t).st = 1) (hq : (za f t).q = true) (hc : t ≠ c)  : zJ PP cR 57 [.int .i64 t, .int .i64 0] (f) (.tuple #[]) (zg (zZ f t) t { za (zZ f t) t with st := 0 }) := by
 have h := s.q
 have hv := zh (h.thr t ht)
 have htl := zd.lo t ht
 have hth := zd.hi t ht
 have q1 := zhH zd s ht hq
 have dc := (zdx zd s ht hq).2.2
 have qg := q1
 have hv1 := zae (zh (qg.thr t ht)) (x := 0) (by omega)
 obtain ⟨k0, p0, c0⟩ := zH (jC ht (h.thr t ht))
 obtain ⟨k1, p1, c1⟩ := zkz h ht hq
 obtain ⟨k2, p2, c2⟩ := zc2 s.ct dc
 obtain ⟨k3, p3, c3⟩ := zH (jC (f := zZ f t) ht (qg.thr t ht))
 obtain ⟨k4, p4, c4⟩ := zH (zaq (f := zZ f t) ht hv1)
 exact ⟨(((((0 + k0) + k1) + k2) + k3) + k4), by omega, zD hC0 (by decide) zjL rfl (zlk f t c (ksL [k0, k1, k2, k3, k4])) (zh9 f t c) fun st => ⟨(zc (k := ((((0 + k0) + k1) + k2) + k3)) (m := k4) (zc (k := (((0 + k0) + k1) + k2)) (m := k3) (zc (k := ((0 + k0) + k1)) (m := k2) (zc (k := (0 + k0)) (m := k1) (zc (k := (0 : Nat)) (m := k0) rfl rfl p0) rfl p1) rfl p2) rfl p3) rfl p4), zm ⟨zac hs, (sbq rfl).trans hq, yK (show (c : Int) ≠ (t : Int) by omega), trivial⟩ trivial,
  ⟨zi c0 p0 rfl (fun ρ => rfl) (fun ρ => yC thA),
   zi c1 p1 rfl (fun ρ => rfl) (fun ρ => rfl),
   zi c2 p2 rfl (fun ρ => rfl) (fun ρ => rfl),
   zi c3 p3 rfl (fun ρ => rfl) (fun ρ => yC thA),
   zi c4 p4 rfl (fun ρ => je rfl thA) (fun ρ => rfl),
   trivial⟩,
  zn trivial, fun ρ => rfl, fun ρ => rfl⟩⟩
def zli (f : Nat -> Int) (t : Nat) (c : Nat) (ks : Nat -> Int) : Nat -> Int := fun i => match i / 100 with
 | 0 => (t : Int)
 | 1 => ym (za f t) (zq f t) (i % 100)
 | 2 => (c : Int)
 | 4 => ym (za (upd (f) 1 0) t) (zq (upd (f) 1 0) t) (i % 100)
 | 90 => ks (i % 100)
 | _ => 0
def zh7 (f : Nat -> Int) (t : Nat) (c : Nat) : Nat -> Nat -> Int := fun q => match q with
 | 0 => f
 | 1 => f
 | 2 => f
 | 3 => upd (f) 1 0
 | 4 => upd (f) 1 0
 | 5 => zg (upd (f) 1 0) t { za (upd (f) 1 0) t with st := 0 }
 | _ => f
theorem zjJ : yN cx0 cR [⟨62, [(.si .i64 (.v 1))], 1, (.tup [(tD 100), (.i .i64 0)]), (.v 9000)⟩,
 ⟨67, [], 2, (.si .i64 (.v 200)), (.v 9001)⟩,
 ⟨76, [(.i .i64 0)], 3, (.i .i64 0), (.v 9002)⟩,
 ⟨62, [(.si .i64 (.v 1))], 4, (.tup [(tD 400), (.i .i64 0)]), (.v 9003)⟩,
 ⟨83, [(.si .i64 (.v 1)), (tA 400 (.i .i64 0) (sv 401) (sv 402) (tv 403) (sv 404) (sv 405) (sv 406) (sv 407) (tv 408) (tv 409) (sv 410) (sv 411) (sv 412) (sv 413))], 5, (.i .i64 0), (.v 9004)⟩]
 [] 57 [.si .i64 (.v 1), .i .i64 0] ⟨[((.cmp .eql (.v 100) (.lit 1)), true), ((.cmp .eql (.v 103) (.lit 1)), false), ((.cmp .eql (.v 200) (.v 1)), true)], []⟩ (.tup []) 5 s5 = 0 := by decide +kernel
theorem zqY (s : SS TT f Q P c) (ht : TT t) (hs : (za f t).st = 1) (hq : (za f t).q = false) (hc : t = c)  : zJ PP cR 57 [.int .i64 t, .int .i64 0] (f) (.tuple #[]) (zg (upd (f) 1 0) t { za (upd (f) 1 0) t with st := 0 }) := by
 have h := s.q
 have hv := zh (h.thr t ht)
 have htl := zd.lo t ht
 have hth := zd.hi t ht
 have qg := zec zd h 0
 have hv1 := zae (zh (qg.thr t ht)) (x := 0) (by omega)
 obtain ⟨k0, p0, c0⟩ := zH (jC ht (h.thr t ht))
 obtain ⟨k1, p1, c1⟩ := zc2 s.ct s.cur
 obtain ⟨k2, p2, c2⟩ := zjX (TT := TT) (t := 0) (.inl rfl) (f)
 obtain ⟨k3, p3, c3⟩ := zH (jC (f := upd (f) 1 0) ht (qg.thr t ht))
 obtain ⟨k4, p4, c4⟩ := zH (zaq (f := upd (f) 1 0) ht hv1)
 exact ⟨(((((0 + k0) + k1) + k2) + k3) + k4), by omega, zD hC0 (by decide) zjJ rfl (zli f t c (ksL [k0, k1, k2, k3, k4])) (zh7 f t c) fun st => ⟨(zc (k := ((((0 + k0) + k1) + k2) + k3)) (m := k4) (zc (k := (((0 + k0) + k1) + k2)) (m := k3) (zc (k := ((0 + k0) + k1)) (m := k2) (zc (k := (0 + k0)) (m := k1) (zc (k := (0 : Nat)) (m := k0) rfl rfl p0) rfl p1) rfl p2) rfl p3) rfl p4), zm ⟨zac hs, (sbq rfl).trans hq, zac (show (c : Int) = (t : Int) by omega), trivial⟩ trivial,
  ⟨zi c0 p0 rfl (fun ρ => rfl) (fun ρ => yC thA),
   zi c1 p1 rfl (fun ρ => rfl) (fun ρ => rfl),
   zi c2 p2 rfl (fun ρ => rfl) (fun ρ => rfl),
   zi c3 p3 rfl (fun ρ => rfl) (fun ρ => yC thA),
   zi c4 p4 rfl (fun ρ => je rfl thA) (fun ρ => rfl),
   trivial⟩,
  zn trivial, fun ρ => rfl, fun ρ => rfl⟩⟩
def zlg (f : Nat -> Int) (t : Nat) (c : Nat) (ks : Nat -> Int) : Nat -> Int := fun i => match i / 100 with
 | 0 => (t : Int)
 | 1 => ym (za f t) (zq f t) (i % 100)
 | 2 => (c : Int)
 | 3 => ym (za (f) t) (zq (f) t) (i % 100)
 | 90 => ks (i % 100)
 | _ => 0
def zh5 (f : Nat -> Int) (t : Nat) (c : Nat) : Nat -> Nat -> Int := fun q => match q with
 | 0 => f
 | 1 => f
 | 2 => f
 | 3 => f
 | 4 => zg (f) t { za (f) t with st := 0 }
 | _ => f
theorem zjH : yN cx0 cR [⟨62, [(.si .i64 (.v 1))], 1, (.tup [(tD 100), (.i .i64 0)]), (.v 9000)⟩,
 ⟨67, [], 2, (.si .i64 (.v 200)), (.v 9001)⟩,
 ⟨62, [(.si .i64 (.v 1))], 3, (.tup [(tD 300), (.i .i64 0)]), (.v 9002)⟩,
 ⟨83, [(.si .i64 (.v 1)), (tA 300 (.i .i64 0) (sv 301) (sv 302) (tv 303) (sv 304) (sv 305) (sv 306) (sv 307) (tv 308) (tv 309) (sv 310) (sv 311) (sv 312) (sv 313))], 4, (.i .i64 0), (.v 9003)⟩]
 [] 57 [.si .i64 (.v 1), .i .i64 0] ⟨[((.cmp .eql (.v 100) (.lit 1)), true), ((.cmp .eql (.v 103) (.lit 1)), false), ((.cmp .eql (.v 200) (.v 1)), false)], []⟩ (.tup []) 4 s4 = 0 := by decide +kernel
theorem zqW (s : SS TT f Q P c) (ht : TT t) (hs : (za f t).st = 1) (hq : (za f t).q = false) (hc : t ≠ c)  : zJ PP cR 57 [.int .i64 t, .int .i64 0] (f) (.tuple #[]) (zg (f) t { za (f) t with st := 0 }) := by
 have h := s.q
 have hv := zh (h.thr t ht)
 have htl := zd.lo t ht
 have hth := zd.hi t ht
 have qg := h
 have hv1 := zae (zh (qg.thr t ht)) (x := 0) (by omega)
 obtain ⟨k0, p0, c0⟩ := zH (jC ht (h.thr t ht))
 obtain ⟨k1, p1, c1⟩ := zc2 s.ct s.cur
 obtain ⟨k2, p2, c2⟩ := zH (jC (f := f) ht (qg.thr t ht))
 obtain ⟨k3, p3, c3⟩ := zH (zaq (f := f) ht hv1)
 exact ⟨((((0 + k0) + k1) + k2) + k3), by omega, zD hC0 (by decide) zjH rfl (zlg f t c (ksL [k0, k1, k2, k3])) (zh5 f t c) fun st => ⟨(zc (k := (((0 + k0) + k1) + k2)) (m := k3) (zc (k := ((0 + k0) + k1)) (m := k2) (zc (k := (0 + k0)) (m := k1) (zc (k := (0 : Nat)) (m := k0) rfl rfl p0) rfl p1) rfl p2) rfl p3), zm ⟨zac hs, (sbq rfl).trans hq, yK (show (c : Int) ≠ (t : Int) by omega), trivial⟩ trivial,
  ⟨zi c0 p0 rfl (fun ρ => rfl) (fun ρ => yC thA),
   zi c1 p1 rfl (fun ρ => rfl) (fun ρ => rfl),
   zi c2 p2 rfl (fun ρ => rfl) (fun ρ => yC thA),
   zi c3 p3 rfl (fun ρ => je rfl thA) (fun ρ => rfl),
   trivial⟩,
  zn trivial, fun ρ => rfl, fun ρ => rfl⟩⟩
def zle (f : Nat -> Int) (t : Nat) (c : Nat) (ks : Nat -> Int) : Nat -> Int := fun i => match i / 100 with
 | 0 => (t : Int)
 | 1 => ym (za f t) (zq f t) (i % 100)
 | 2 => (c : Int)
 | 4 => ym (za (upd (f) 1 0) t) (zq (upd (f) 1 0) t) (i % 100)
 | 90 => ks (i % 100)
 | _ => 0
def zh3 (f : Nat -> Int) (t : Nat) (c : Nat) : Nat -> Nat -> Int := fun q => match q with
 | 0 => f
 | 1 => f
 | 2 => f
 | 3 => upd (f) 1 0
 | 4 => upd (f) 1 0
 | 5 => zg (upd (f) 1 0) t { za (upd (f) 1 0) t with st := 0 }
 | _ => f
theorem zjF : yN cx0 cR [⟨62, [(.si .i64 (.v 1))], 1, (.tup [(tD 100), (.i .i64 0)]), (.v 9000)⟩,
 ⟨67, [], 2, (.si .i64 (.v 200)), (.v 9001)⟩,
 ⟨76, [(.i .i64 0)], 3, (.i .i64 0), (.v 9002)⟩,
 ⟨62, [(.si .i64 (.v 1))], 4, (.tup [(tD 400), (.i .i64 0)]), (.v 9003)⟩,
 ⟨83, [(.si .i64 (.v 1)), (tA 400 (.i .i64 0) (sv 401) (sv 402) (tv 403) (sv 404) (sv 405) (sv 406) (sv 407) (tv 408) (tv 409) (sv 410) (sv 411) (sv 412) (sv 413))], 5, (.i .i64 0), (.v 9004)⟩]
 [] 57 [.si .i64 (.v 1), .i .i64 0] ⟨[((.cmp .eql (.v 100) (.lit 1)), false), ((.cmp .eql (.v 200) (.v 1)), true)], []⟩ (.tup []) 5 s5 = 0 := by decide +kernel
theorem zqU (s : SS TT f Q P c) (ht : TT t) (hs : (za f t).st ≠ 1) (hq : (za f t).q = false) (hc : t = c)  : zJ PP cR 57 [.int .i64 t, .int .i64 0] (f) (.tuple #[]) (zg (upd (f) 1 0) t { za (upd (f) 1 0) t with st := 0 }) := by
 have h := s.q
 have hv := zh (h.thr t ht)
 have htl := zd.lo t ht
 have hth := zd.hi t ht
 have qg := zec zd h 0
 have hv1 := zae (zh (qg.thr t ht)) (x := 0) (by omega)
 obtain ⟨k0, p0, c0⟩ := zH (jC ht (h.thr t ht))
 obtain ⟨k1, p1, c1⟩ := zc2 s.ct s.cur
 obtain ⟨k2, p2, c2⟩ := zjX (TT := TT) (t := 0) (.inl rfl) (f)
 obtain ⟨k3, p3, c3⟩ := zH (jC (f := upd (f) 1 0) ht (qg.thr t ht))
 obtain ⟨k4, p4, c4⟩ := zH (zaq (f := upd (f) 1 0) ht hv1)
 exact ⟨(((((0 + k0) + k1) + k2) + k3) + k4), by omega, zD hC0 (by decide) zjF rfl (zle f t c (ksL [k0, k1, k2, k3, k4])) (zh3 f t c) fun st => ⟨(zc (k := ((((0 + k0) + k1) + k2) + k3)) (m := k4) (zc (k := (((0 + k0) + k1) + k2)) (m := k3) (zc (k := ((0 + k0) + k1)) (m := k2) (zc (k := (0 + k0)) (m := k1) (zc (k := (0 : Nat)) (m := k0) rfl rfl p0) rfl p1) rfl p2) rfl p3) rfl p4), zm ⟨yK hs, zac (show (c : Int) = (t : Int) by omega), trivial⟩ trivial,
  ⟨zi c0 p0 rfl (fun ρ => rfl) (fun ρ => yC thA),
   zi c1 p1 rfl (fun ρ => rfl) (fun ρ => rfl),
   zi c2 p2 rfl (fun ρ => rfl) (fun ρ => rfl),
   zi c3 p3 rfl (fun ρ => rfl) (fun ρ => yC thA),
   zi c4 p4 rfl (fun ρ => je rfl thA) (fun ρ => rfl),
   trivial⟩,
  zn trivial, fun ρ => rfl, fun ρ => rfl⟩⟩
def zlc (f : Nat -> Int) (t : Nat) (c : Nat) (ks : Nat -> Int) : Nat -> Int := fun i => match i / 100 with
 | 0 => (t : Int)
 | 1 => ym (za f t) (zq f t) (i % 100)
 | 2 => (c : Int)
 | 3 => ym (za (f) t) (zq (f) t) (i % 100)
 | 90 => ks (i % 100)
 | _ => 0
def zh1 (f : Nat -> Int) (t : Nat) (c : Nat) : Nat -> Nat -> Int := fun q => match q with
 | 0 => f
 | 1 => f
 | 2 => f
 | 3 => f
 | 4 => zg (f) t { za (f) t with st := 0 }
 | _ => f
theorem zjD : yN cx0 cR [⟨62, [(.si .i64 (.v 1))], 1, (.tup [(tD 100), (.i .i64 0)]), (.v 9000)⟩,
 ⟨67, [], 2, (.si .i64 (.v 200)), (.v 9001)⟩,
 ⟨62, [(.si .i64 (.v 1))], 3, (.tup [(tD 300), (.i .i64 0)]), (.v 9002)⟩,
 ⟨83, [(.si .i64 (.v 1)), (tA 300 (.i .i64 0) (sv 301) (sv 302) (tv 303) (sv 304) (sv 305) (sv 306) (sv 307) (tv 308) (tv 309) (sv 310) (sv 311) (sv 312) (sv 313))], 4, (.i .i64 0), (.v 9003)⟩]
 [] 57 [.si .i64 (.v 1), .i .i64 0] ⟨[((.cmp .eql (.v 100) (.lit 1)), false), ((.cmp .eql (.v 200) (.v 1)), false)], []⟩ (.tup []) 4 s4 = 0 := by decide +kernel
theorem zqS (s : SS TT f Q P c) (ht : TT t) (hs : (za f t).st ≠ 1) (hq : (za f t).q = false) (hc : t ≠ c)  : zJ PP cR 57 [.int .i64 t, .int .i64 0] (f) (.tuple #[]) (zg (f) t { za (f) t with st := 0 }) := by
 have h := s.q
 have hv := zh (h.thr t ht)
 have htl := zd.lo t ht
 have hth := zd.hi t ht
 have qg := h
 have hv1 := zae (zh (qg.thr t ht)) (x := 0) (by omega)
 obtain ⟨k0, p0, c0⟩ := zH (jC ht (h.thr t ht))
 obtain ⟨k1, p1, c1⟩ := zc2 s.ct s.cur
 obtain ⟨k2, p2, c2⟩ := zH (jC (f := f) ht (qg.thr t ht))
 obtain ⟨k3, p3, c3⟩ := zH (zaq (f := f) ht hv1)
 exact ⟨((((0 + k0) + k1) + k2) + k3), by omega, zD hC0 (by decide) zjD rfl (zlc f t c (ksL [k0, k1, k2, k3])) (zh1 f t c) fun st => ⟨(zc (k := (((0 + k0) + k1) + k2)) (m := k3) (zc (k := ((0 + k0) + k1)) (m := k2) (zc (k := (0 + k0)) (m := k1) (zc (k := (0 : Nat)) (m := k0) rfl rfl p0) rfl p1) rfl p2) rfl p3), zm ⟨yK hs, yK (show (c : Int) ≠ (t : Int) by omega), trivial⟩ trivial,
  ⟨zi c0 p0 rfl (fun ρ => rfl) (fun ρ => yC thA),
   zi c1 p1 rfl (fun ρ => rfl) (fun ρ => rfl),
   zi c2 p2 rfl (fun ρ => rfl) (fun ρ => yC thA),
   zi c3 p3 rfl (fun ρ => je rfl thA) (fun ρ => rfl),
   trivial⟩,
  zn trivial, fun ρ => rfl, fun ρ => rfl⟩⟩
theorem zqQ (s : SS TT f Q P c) (ht : TT t) : zJ PP cR 57 [.int .i64 t, .int .i64 0] f (.tuple #[]) (zd0 f t 0) := by
 have zv := s.run t ht
 unfold zd0 zbM zcU
 cases hq : (za f t).q with
 | true =>
  have hc : t ≠ c := fun e => by
   have := s.nc (e ▸ ht)
   rw [<- e, hq] at this; cases this
  have hs : (za f t).st = 1 := by rw [s.st ht]; exact zv.2 (.inr hq)
  rw [if_neg (show ¬ f 1 = (t : Int) by rw [s.cur]; omega), if_pos rfl]
  exact zq0 s ht hs hq hc
 | false =>
  rw [if_neg (show ¬ false = true by simp)]
  by_cases hc : t = c
  ·rw [if_pos (show f 1 = (t : Int) by rw [s.cur, hc])]
   by_cases hs : (za f t).st = 1
   ·exact zqY s ht hs hq hc
   ·exact zqU s ht hs hq hc
  ·rw [if_neg (show ¬ f 1 = (t : Int) by rw [s.cur]; omega)]
   by_cases hs : (za f t).st = 1
   ·exact zqW s ht hs hq hc
   ·exact zqS s ht hs hq hc
end Go.Ev.X
end
