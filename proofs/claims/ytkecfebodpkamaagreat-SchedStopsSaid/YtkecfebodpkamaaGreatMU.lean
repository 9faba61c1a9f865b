/-
 Where the laws begin, as words; the states that SchedUrgent goes through.
-/
import Derived.Test.YtkecfebodpkamaaGreatMSp
import Derived.Test.YtkecfebodpkamaaGreatMS0p
import Derived.Test.YtkecfebodpkamaaGreatE6
import Derived.Test.YtkecfebodpkamaaGreatAB
set_option linter.unusedSimpArgs false
set_option linter.unusedVariables false
set_option maxRecDepth 100000
noncomputable section
namespace Go.Ev.X
open Go Go.Ev Go.Proofs
def f0 : Nat → Int := trF abt0
theorem abt_u : trU64 abt0 = true := by decide +kernel
theorem ck_q : allB (fun p => iEq (f0 (256 + p)) 0) (rng 256) = true := by decide +kernel
theorem ck_b : allB (fun p => iEq (f0 (8 + p)) 0) (rng 4) = true := by decide +kernel
theorem ck_s : f0 4 = 0 := by decide +kernel
theorem ck_c : f0 1 = 0 := by decide +kernel
theorem ck_t : ∀ t ∈ thrL, (0 ≤ f0 (t + 16) ∧ f0 (t + 16) < 524288) ∧ (0 ≤ f0 (t + 17) ∧ f0 (t + 17) < 18446744073709551616) ∧ (0 ≤ f0 (t + 18) ∧ f0 (t + 18) < 268435456) ∧ (0 ≤ f0 (t + 19) ∧ f0 (t + 19) < 18446744073709551616) ∧ f0 (t + 16) % 8 = 0 ∧ f0 (t + 16) / 2048 % 8 = 5 ∧
  f0 (t + 16) / 16384 % 2 = 0 ∧ f0 (t + 17) % 65536 = 0 ∧ f0 (t + 17) / 65536 % 65536 = 0 := by decide +kernel
theorem f0_q {p : Nat} (hp : p < 256) : f0 (256 + p) = 0 := by
 have := rng_ok ck_q p hp
 rw [iEq_eq] at this
 exact of_decide_eq_true this
theorem f0_b {p : Nat} (hp : p < 4) : f0 (8 + p) = 0 := by
 have := rng_ok ck_b p hp
 rw [iEq_eq] at this
 exact of_decide_eq_true this
def Q0 : Nat → List Nat := fun _ => []
def P0 (t : Nat) : TV := core (getT f0 t)
theorem S0 : SS TT f0 Q0 P0 0 := by
 have ht : ∀ t, TT t → RightAt f0 t ∧ (getT f0 t).st = 0 ∧ (getT f0 t).sl = 5 ∧ (getT f0 t).q = false ∧ (getT f0 t).pv = 0 ∧ (getT f0 t).nx = 0 := fun t ht => by
  obtain ⟨a, b, c, d, e, f, g, h, i⟩ := ck_t t (TT_mem ht)
  exact ⟨⟨a, b, c, d, by omega, by omega⟩, e, f, decide_eq_false (by omega), h, i⟩
 have hd0 : (0 : Int) = ((0 : Nat) : Int) + ((0 : Nat) : Int) * 65536 := by decide
 refine ⟨⟨fun t h => (ht t h).1, fun p t _ h => (by cases h), fun t h hq => ?_, fun t h _ => (ht t h).2.2.2.2, fun _ _ => List.nodup_nil, fun _ _ => trivial, fun p hp => (f0_q hp).trans hd0, fun g hg => ⟨?_, ?_, fun k _ => ?_⟩, ?_, ?_, fun g hg => ?_⟩, fun t _ => rfl, (show f0 1 = ((0 : Nat) : Int) by rw [ck_c]; rfl), .inl rfl, fun t h => ?_, fun h => ?_⟩
 ·rw [(ht t h).2.2.2.1] at hq; cases hq
 ·rw [f0_b hg]; omega
 ·rw [f0_b hg]; omega
 ·rw [f0_b hg]; simp [Q0]
 ·rw [ck_s]; omega
 ·rw [ck_s]; omega
 ·rw [ck_s, f0_b hg]; simp
 ·have e : (P0 t).st = 0 := (ht t h).2.1
  rw [e, (ht t h).2.2.2.1]
  have := TT_thr.lo t h
  simp; omega
 ·have := TT_thr.lo 0 h; omega
theorem P0_sl {t : Nat} (h : TT t) : (P0 t).sl = 5 := (ck_t t (TT_mem h)).2.2.2.2.2.1
structure QL (Q : Nat → List Nat) (L H : Nat) (l m : List Nat) : Prop where
 l : Q L = l
 m : Q H = m
 o : ∀ p, p ≠ L → p ≠ H → Q p = []
variable {f : Nat → Int} {Q : Nat → List Nat} {P : Nat → TV} {c t L H : Nat} {l m : List Nat}
def ticks (f : Nat → Int) : Nat → Nat → Int
 | 0 => f
 | k + 1 => tickF (ticks f k)
structure Urg (low high : Int) (n : Nat) (u1 u2 u3 u4 u5 u6 u7 u8 u9 u10 : Nat → Int) : Prop where
 m1 : MemE PP cP 11 [.int .i64 (1024 : Nat), .int .i64 low] f0 (.int .i64 0) u1
 m2 : MemE PP cP 11 [.int .i64 (1088 : Nat), .int .i64 low] u1 (.int .i64 0) u2
 m3 : MemE PP cP 11 [.int .i64 (1152 : Nat), .int .i64 high] u2 (.int .i64 0) u3
 m4 : MemE PP cP 12 [.int .i64 (1024 : Nat)] u3 (.tuple #[]) u4
 m5 : MemE PP cP 12 [.int .i64 (1088 : Nat)] u4 (.tuple #[]) u5
 m6 : MemE PP cP 13 [] u5 (.tuple #[]) u6
 mt : ∀ k, k < n → MemE PP cP 14 [] (ticks u6 k) (.tuple #[]) (ticks u6 (k + 1))
 m7 : MemE PP cP 12 [.int .i64 (1152 : Nat)] (ticks u6 n) (.tuple #[]) u7
 m8 : MemE PP cP 13 [] u7 (.tuple #[]) u8
 mc : MemE PP cP 15 [] u8 (.int .i64 (1152 : Nat)) u8
 mf : MemE PP cP 16 [.int .i64 low] u8 (.int .i64 (1024 : Nat)) u8
 m9 : MemE PP cP 17 [.int .i64 (1152 : Nat), .int .i64 0] u8 (.tuple #[]) u9
 m10 : MemE PP cP 13 [] u9 (.tuple #[]) u10
 md : MemE PP cP 15 [] u10 (.int .i64 (1024 : Nat)) u10
 mh : MemE PP cP 18 [.int .i64 (1024 : Nat)] u10 (.tuple #[thV (getT u10 1024) (regs u10 1024), .int .i64 0]) u10
 sl : (getT u10 1024).sl = 5 - n
end Go.Ev.X
end
