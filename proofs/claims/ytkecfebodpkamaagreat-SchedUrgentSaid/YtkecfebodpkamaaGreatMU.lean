/-
  Where the laws begin, as words; the states that SchedUrgent goes through.
-/
import Derived.Test.YtkecfebodpkamaaGreatMSp
import Derived.Test.YtkecfebodpkamaaGreatMS0p
import Derived.Test.YtkecfebodpkamaaGreatE6
import Derived.Test.YtkecfebodpkamaaGreatAB
set_option linter.unusedSimpArgs false
set_option linter.unusedVariables false
set_option maxRecDepth 100000
noncomputable section
namespace Go.Ev.X
open Go Go.Ev Go.Proofs
def f0 : Nat → Int := trF abt0
theorem abt_u : trU64 abt0 = true := by decide +kernel
theorem ck_q : allB (fun p => iEq (f0 (256 + p)) 0) (rng 256) = true := by decide +kernel
theorem ck_b : allB (fun p => iEq (f0 (8 + p)) 0) (rng 4) = true := by decide +kernel
theorem ck_s : f0 4 = 0 := by decide +kernel
theorem ck_c : f0 1 = 0 := by decide +kernel
theorem ck_t : ∀ t ∈ thrL, (0 ≤ f0 (t + 16) ∧ f0 (t + 16) < 524288) ∧ (0 ≤ f0 (t + 17) ∧ f0 (t + 17) < 18446744073709551616) ∧ (0 ≤ f0 (t + 18) ∧ f0 (t + 18) < 268435456) ∧ (0 ≤ f0 (t + 19) ∧ f0 (t + 19) < 18446744073709551616) ∧ f0 (t + 16) % 8 = 0 ∧ f0 (t + 16) / 2048 % 8 = 5 ∧
    f0 (t + 16) / 16384 % 2 = 0 ∧ f0 (t + 17) % 65536 = 0 ∧ f0 (t + 17) / 65536 % 65536 = 0 := by decide +kernel
theorem f0_q {p : Nat} (hp : p < 256) : f0 (256 + p) = 0 := by
  have := rng_ok ck_q p hp
  rw [iEq_eq] at this
  exact of_decide_eq_true this
theorem f0_b {p : Nat} (hp : p < 4) : f0 (8 + p) = 0 := by
  have := rng_ok ck_b p hp
  rw [iEq_eq] at this
  exact of_decide_eq_true this
def Q0 : Nat → List Nat := fun _ => []
def P0 (t : Nat) : TV := core (getT f0 t)
theorem S0 : SS TT f0 Q0 P0 0 := by
  have ht : ∀ t, TT t → RightAt f0 t ∧ (getT f0 t).st = 0 ∧ (getT f0 t).sl = 5 ∧ (getT f0 t).q = false ∧ (getT f0 t).pv = 0 ∧ (getT f0 t).nx = 0 := fun t ht => by
    obtain ⟨a, b, c, d, e, f, g, h, i⟩ := ck_t t (TT_mem ht)
    exact ⟨⟨a, b, c, d, by omega, by omega⟩, e, f, decide_eq_false (by omega), h, i⟩
  have hd0 : (0 : Int) = ((0 : Nat) : Int) + ((0 : Nat) : Int) * 65536 := by decide
  refine ⟨⟨fun t h => (ht t h).1, fun p t _ h => (by cases h), fun t h hq => ?_, fun t h _ => (ht t h).2.2.2.2, fun _ _ => List.nodup_nil, fun _ _ => trivial, fun p hp => (f0_q hp).trans hd0, fun g hg => ⟨?_, ?_, fun k _ => ?_⟩, ?_, ?_, fun g hg => ?_⟩, fun t _ => rfl, (show f0 1 = ((0 : Nat) : Int) by rw [ck_c]; rfl), .inl rfl, fun t h => ?_, fun h => ?_⟩
  · rw [(ht t h).2.2.2.1] at hq; cases hq
  · rw [f0_b hg]; omega
  · rw [f0_b hg]; omega
  · rw [f0_b hg]; simp [Q0]
  · rw [ck_s]; omega
  · rw [ck_s]; omega
  · rw [ck_s, f0_b hg]; simp
  · have e : (P0 t).st = 0 := (ht t h).2.1
    rw [e, (ht t h).2.2.2.1]
    have := TT_thr.lo t h
    simp; omega
  · have := TT_thr.lo 0 h; omega
theorem P0_sl {t : Nat} (h : TT t) : (P0 t).sl = 5 := (ck_t t (TT_mem h)).2.2.2.2.2.1
structure QL (Q : Nat → List Nat) (L H : Nat) (l m : List Nat) : Prop where
  l : Q L = l
  m : Q H = m
  o : ∀ p, p ≠ L → p ≠ H → Q p = []
variable {f : Nat → Int} {Q : Nat → List Nat} {P : Nat → TV} {c t L H : Nat} {l m : List Nat}
theorem QL.setL (q : QL Q L H l m) (hne : L ≠ H) (x : List Nat) : QL (setP Q L x) L H x m := ⟨setP_same _ _ _, by rw [setP_other _ _ (Ne.symm hne)]; exact q.m, fun p h1 h2 => by rw [setP_other _ _ h1]; exact q.o p h1 h2⟩
theorem QL.setH (q : QL Q L H l m) (hne : L ≠ H) (x : List Nat) : QL (setP Q H x) L H l x := ⟨by rw [setP_other _ _ hne]; exact q.l, setP_same _ _ _, fun p h1 h2 => by rw [setP_other _ _ h2]; exact q.o p h1 h2⟩
theorem top_H {o : Option Nat} (h : Top Q o) (q : QL Q L H l m) (hm : m ≠ []) (hLH : L < H) (hH : H < 256) : o = some H := by
  cases h with
  | none h => exact absurd (q.m.symm.trans (h H hH)) hm
  | some p hp hne hab =>
    by_cases e : p = H
    · rw [e]
    · by_cases e2 : p = L
      · exact absurd (q.m.symm.trans (hab H (by omega) hH)) hm
      · exact absurd (q.o p e2 e) hne
theorem top_L {o : Option Nat} (h : Top Q o) (q : QL Q L H l []) (hl : l ≠ []) (hL : L < 256) : o = some L := by
  cases h with
  | none h => exact absurd (q.l.symm.trans (h L hL)) hl
  | some p hp hne hab =>
    by_cases e : p = L
    · rw [e]
    · by_cases e2 : p = H
      · rw [e2] at hne; exact absurd q.m hne
      · exact absurd (q.o p e e2) hne
theorem hi_H (s : SS TT f Q P c) (q : QL Q L H l (t :: m)) (hLH : L < H) (hH : H < 256) : MemE PP cP 23 [] f (.int .i64 t) f := by
  obtain ⟨o, ho, k⟩ := high_p s.q
  rw [top_H ho q (by simp) hLH hH] at k
  have e : topH Q (some H) = (t : Int) := by show ((hdN (Q H) 0 : Nat) : Int) = t; rw [q.m]; rfl
  rw [e] at k; exact k
theorem hi_L (s : SS TT f Q P c) (q : QL Q L H (t :: l) []) (hL : L < 256) : MemE PP cP 23 [] f (.int .i64 t) f := by
  obtain ⟨o, ho, k⟩ := high_p s.q
  rw [top_L ho q (by simp) hL] at k
  have e : topH Q (some L) = (t : Int) := by show ((hdN (Q L) 0 : Nat) : Int) = t; rw [q.l]; rfl
  rw [e] at k; exact k
def ticks (f : Nat → Int) : Nat → Nat → Int
  | 0 => f
  | k + 1 => tickF (ticks f k)
structure Urg (low high : Int) (n : Nat) (u1 u2 u3 u4 u5 u6 u7 u8 u9 u10 : Nat → Int) : Prop where
  m1 : MemE PP cP 11 [.int .i64 (1024 : Nat), .int .i64 low] f0 (.int .i64 0) u1
  m2 : MemE PP cP 11 [.int .i64 (1088 : Nat), .int .i64 low] u1 (.int .i64 0) u2
  m3 : MemE PP cP 11 [.int .i64 (1152 : Nat), .int .i64 high] u2 (.int .i64 0) u3
  m4 : MemE PP cP 12 [.int .i64 (1024 : Nat)] u3 (.tuple #[]) u4
  m5 : MemE PP cP 12 [.int .i64 (1088 : Nat)] u4 (.tuple #[]) u5
  m6 : MemE PP cP 13 [] u5 (.tuple #[]) u6
  mt : ∀ k, k < n → MemE PP cP 14 [] (ticks u6 k) (.tuple #[]) (ticks u6 (k + 1))
  m7 : MemE PP cP 12 [.int .i64 (1152 : Nat)] (ticks u6 n) (.tuple #[]) u7
  m8 : MemE PP cP 13 [] u7 (.tuple #[]) u8
  mc : MemE PP cP 15 [] u8 (.int .i64 (1152 : Nat)) u8
  mf : MemE PP cP 16 [.int .i64 low] u8 (.int .i64 (1024 : Nat)) u8
  m9 : MemE PP cP 17 [.int .i64 (1152 : Nat), .int .i64 0] u8 (.tuple #[]) u9
  m10 : MemE PP cP 13 [] u9 (.tuple #[]) u10
  md : MemE PP cP 15 [] u10 (.int .i64 (1024 : Nat)) u10
  mh : MemE PP cP 18 [.int .i64 (1024 : Nat)] u10 (.tuple #[thV (getT u10 1024) (regs u10 1024), .int .i64 0]) u10
  sl : (getT u10 1024).sl = 5 - n
theorem noq (s : SS TT f Q P c) (ht : TT t) (h : t ∉ Q (P t).pr.toNat) : (getT f t).q = false := by
  cases hq : (getT f t).q with
  | false => rfl
  | true => exact absurd ((s.inQ ht).1 hq) h
theorem urg {low high : Int} {n : Nat} (h0 : 0 ≤ low) (h1 : low < high) (h2 : high ≤ 255) (hn : n ≤ 4) : ∃ u1 u2 u3 u4 u5 u6 u7 u8 u9 u10, Urg low high n u1 u2 u3 u4 u5 u6 u7 u8 u9 u10 := by
  have ha : TT 1024 := .inl rfl
  have hb : TT 1088 := .inr (.inl rfl)
  have hc : TT 1152 := .inr (.inr (.inl rfl))
  obtain ⟨L, hL⟩ : ∃ L : Nat, low = (L : Int) := Int.eq_ofNat_of_zero_le h0
  obtain ⟨H, hH⟩ : ∃ H : Nat, high = (H : Int) := Int.eq_ofNat_of_zero_le (by omega)
  have hLH : L < H := by omega
  have hne : L ≠ H := by omega
  -- priorities
  have q0 : QL Q0 L H [] [] := ⟨rfl, rfl, fun _ _ _ => rfl⟩
  have m1 := pr_cp S0 ha (p := low) (by omega)
  have s1 := prA_S TT_thr S0 ha (noq S0 ha (by simp [Q0])) (p := low) (by omega)
  have m2 := pr_cp s1 hb (p := low) (by omega)
  have s2 := prA_S TT_thr s1 hb (noq s1 hb (by simp [Q0])) (p := low) (by omega)
  have m3 := pr_cp s2 hc (p := high) (by omega)
  have s3 := prA_S TT_thr s2 hc (noq s2 hc (by simp [Q0])) (p := high) (by omega)
  generalize prF f0 1024 low = u1 at *
  generalize prF u1 1088 low = u2 at *
  generalize prF u2 1152 high = u3 at *
  have pa : (setTh (setTh (setTh P0 1024 { P0 1024 with pr := low }) 1088 { (setTh P0 1024 { P0 1024 with pr := low }) 1088 with pr := low }) 1152 { (setTh (setTh P0 1024 { P0 1024 with pr := low }) 1088 { (setTh P0 1024 { P0 1024 with pr := low }) 1088 with pr := low }) 1152 with pr := high }) 1024 = { P0 1024 with pr := low } := by
    rw [setTh_other _ _ (by decide), setTh_other _ _ (by decide), setTh_same]
  have pb : ((setTh (setTh (setTh P0 1024 { P0 1024 with pr := low }) 1088 { (setTh P0 1024 { P0 1024 with pr := low }) 1088 with pr := low }) 1152 { (setTh (setTh P0 1024 { P0 1024 with pr := low }) 1088 { (setTh P0 1024 { P0 1024 with pr := low }) 1088 with pr := low }) 1152 with pr := high }) 1088).pr = low := by
    rw [setTh_other _ _ (by decide), setTh_same]
  have pc : ((setTh (setTh (setTh P0 1024 { P0 1024 with pr := low }) 1088 { (setTh P0 1024 { P0 1024 with pr := low }) 1088 with pr := low }) 1152 { (setTh (setTh P0 1024 { P0 1024 with pr := low }) 1088 { (setTh P0 1024 { P0 1024 with pr := low }) 1088 with pr := low }) 1152 with pr := high }) 1152).pr = high := by
    rw [setTh_same]
  have a5 := P0_sl ha
  generalize (setTh (setTh (setTh P0 1024 { P0 1024 with pr := low }) 1088 { (setTh P0 1024 { P0 1024 with pr := low }) 1088 with pr := low }) 1152 { (setTh (setTh P0 1024 { P0 1024 with pr := low }) 1088 { (setTh P0 1024 { P0 1024 with pr := low }) 1088 with pr := low }) 1152 with pr := high }) = P3 at *
  have pa1 : (P3 1024).pr = low := by rw [pa]
  have pa2 : (P3 1024).sl = 5 := by rw [pa]; exact a5
  clear pa s1 s2
  -- two are awake
  have m4 := wake_cp s3 ha
  have s4 := wake_S TT_thr s3 ha
  rw [pa1, hL, Int.toNat_natCast, if_neg (by simp [Q0])] at s4
  have q4 : QL (setP Q0 L (Q0 L ++ [1024])) L H [1024] [] := q0.setL hne _
  generalize wakeF u3 1024 = u4 at *
  generalize setP Q0 L (Q0 L ++ [1024]) = Q4 at *
  have pb4 : (setTh P3 1024 (wakeT (P3 1024)) 1088).pr = low := by rw [setTh_other _ _ (by decide)]; exact pb
  have pc4 : (setTh P3 1024 (wakeT (P3 1024)) 1152).pr = high := by rw [setTh_other _ _ (by decide)]; exact pc
  have pa4 : (setTh P3 1024 (wakeT (P3 1024)) 1024).pr = low ∧ (setTh P3 1024 (wakeT (P3 1024)) 1024).sl = 5 := by rw [setTh_same]; exact ⟨pa1, pa2⟩
  generalize setTh P3 1024 (wakeT (P3 1024)) = P4 at *
  have m5 := wake_cp s4 hb
  have s5 := wake_S TT_thr s4 hb
  rw [pb4, hL, Int.toNat_natCast, if_neg (by rw [q4.l]; simp)] at s5
  have q5 : QL (setP Q4 L (Q4 L ++ [1088])) L H [1024, 1088] [] := by
    have := q4.setL hne (Q4 L ++ [1088])
    rw [q4.l] at this ⊢; exact this
  generalize wakeF u4 1088 = u5 at *
  generalize setP Q4 L (Q4 L ++ [1088]) = Q5 at *
  have pa5 : (setTh P4 1088 (wakeT (P4 1088)) 1024).pr = low ∧ (setTh P4 1088 (wakeT (P4 1088)) 1024).sl = 5 := by rw [setTh_other _ _ (by decide)]; exact pa4
  have pc5 : (setTh P4 1088 (wakeT (P4 1088)) 1152).pr = high := by rw [setTh_other _ _ (by decide)]; exact pc4
  generalize setTh P4 1088 (wakeT (P4 1088)) = P5 at *
  -- the first one runs
  have m6 := settle_cp s5 ha ((s5.inQ ha).2 (by rw [pa5.1, hL, Int.toNat_natCast, q5.l]; simp)) (hi_L s5 q5 (by omega))
  have s6 := (settle_S TT_thr s5 (p := L) (by omega) q5.l).1 rfl
  have q6 : QL (setP Q5 L [1088]) L H [1088] [] := q5.setL hne _
  generalize settleA u5 1024 = u6 at *
  generalize setP Q5 L [1088] = Q6 at *
  -- ticks
  have tk : ∀ k, k ≤ 4 → ∃ P6, SS TT (ticks u6 k) Q6 P6 1024 ∧ (P6 1024).pr = low ∧ (P6 1024).sl = 5 - k ∧ (P6 1152).pr = high := by
    intro k
    induction k with
    | zero => exact fun _ => ⟨P5, s6, pa5.1, by rw [pa5.2]; rfl, pc5⟩
    | succ k ih =>
      intro hk
      obtain ⟨P6, s, e1, e2, e3⟩ := ih (by omega)
      have := (tickA_S TT_thr s ha (by omega)).2 (by omega)
      refine ⟨setTh P6 1024 { P6 1024 with sl := (P6 1024).sl - 1 }, ?_, ?_, ?_, ?_⟩
      · have e : tickF (ticks u6 k) = tickA (ticks u6 k) 1024 := by
          unfold tickF
          rw [if_neg (by rw [s.cur]; omega), cur_nat s]
        show SS TT (tickF (ticks u6 k)) Q6 _ 1024
        rw [e]; exact this
      · rw [setTh_same]; exact e1
      · rw [setTh_same]; show (P6 1024).sl - 1 = _; rw [e2]; omega
      · rw [setTh_other _ _ (by decide)]; exact e3
  have mt : ∀ k, k < n → MemE PP cP 14 [] (ticks u6 k) (.tuple #[]) (ticks u6 (k + 1)) := fun k hk => by
    obtain ⟨P6, s, e1, e2, e3⟩ := tk k (by omega)
    exact tick_cp s (fun _ => by rw [e2]; omega)
  obtain ⟨P6, s6, a1, a2, c1⟩ := tk n hn
  -- the third one
  have m7 := wake_cp s6 hc
  have s7 := wake_S TT_thr s6 hc
  rw [c1, hH, Int.toNat_natCast, if_neg (by rw [q6.m]; simp)] at s7
  have q7 : QL (setP Q6 H (Q6 H ++ [1152])) L H [1088] [1152] := by
    have := q6.setH hne (Q6 H ++ [1152])
    rw [q6.m] at this ⊢; exact this
  generalize hut : ticks u6 n = ut at *
  generalize wakeF ut 1152 = u7 at *
  generalize setP Q6 H (Q6 H ++ [1152]) = Q7 at *
  have a7 : (setTh P6 1152 (wakeT (P6 1152)) 1024).pr = low ∧ (setTh P6 1152 (wakeT (P6 1152)) 1024).sl = 5 - n := by rw [setTh_other _ _ (by decide)]; exact ⟨a1, a2⟩
  have c7 : (setTh P6 1152 (wakeT (P6 1152)) 1152).pr = high := by rw [setTh_same]; exact c1
  generalize setTh P6 1152 (wakeT (P6 1152)) = P7 at *
  have m8 := settle_cp s7 hc ((s7.inQ hc).2 (by rw [c7, hH, Int.toNat_natCast, q7.m]; simp)) (hi_H s7 q7 hLH (by omega))
  have s8 := (settle_S TT_thr s7 (p := H) (by omega) q7.m).2.2 (by omega) (by rw [c7, a7.1]; omega)
  rw [a7.1, hL, Int.toNat_natCast] at s8
  have q8 : QL (setP (setP Q7 H []) L (1024 :: setP Q7 H [] L)) L H [1024, 1088] [] := by
    have := (q7.setH hne []).setL hne (1024 :: setP Q7 H [] L)
    rw [(q7.setH hne []).l] at this ⊢; exact this
  generalize settleA u7 1152 = u8 at *
  generalize setP (setP Q7 H []) L (1024 :: setP Q7 H [] L) = Q8 at *
  have mc := cur_p s8.ct s8.cur
  have mf := fronts_p (f := u8) (p := L) (by omega) (q_w64 TT_thr s8.q (p := L) (by omega)).1
  rw [headOf_eq TT_thr s8.q (by omega), q8.l] at mf
  -- it stops
  have m9 := stop0_cp s8 hc
  have s9 := stop_S TT_thr s8 hc (x := 0) (by omega) (by omega)
  rw [if_pos rfl] at s9
  have q9 : QL (dropQ Q8 1152) L H [1024, 1088] [] := ⟨by unfold dropQ; rw [q8.l]; rfl, by unfold dropQ; rw [q8.m]; rfl, fun p h1 h2 => by unfold dropQ; rw [q8.o p h1 h2]; rfl⟩
  generalize stopF u8 1152 0 = u9 at *
  generalize dropQ Q8 1152 = Q9 at *
  have a9 : (setTh P7 1152 { P7 1152 with st := 0 } 1024).pr = low ∧ (setTh P7 1152 { P7 1152 with st := 0 } 1024).sl = 5 - n := by rw [setTh_other _ _ (by decide)]; exact a7
  generalize setTh P7 1152 { P7 1152 with st := 0 } = P9 at *
  have m10 := settle_cp s9 ha ((s9.inQ ha).2 (by rw [a9.1, hL, Int.toNat_natCast, q9.l]; simp)) (hi_L s9 q9 (by omega))
  have s10 := (settle_S TT_thr s9 (p := L) (by omega) q9.l).1 rfl
  generalize settleA u9 1024 = u10 at *
  have md := cur_p s10.ct s10.cur
  have mh := mem1 (thr_p (f := u10) ha (s10.q.thr 1024 ha))
  rw [← hL] at mf
  exact ⟨u1, u2, u3, u4, u5, u6, u7, u8, u9, u10, m1, m2, m3, m4, m5, m6, mt, (by rw [hut]; exact m7), m8, mc, mf, m9, m10, md, mh, by rw [s10.sl ha, a9.2]⟩
end Go.Ev.X
end
