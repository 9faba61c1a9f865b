/-
  The law ChipServes is true at every input. Condition: the table of math/bits holds what its text lays.
-/
import Derived.Test.YtbnceohegekihaaDoorChipOften
set_option linter.unusedSimpArgs false
set_option linter.unusedVariables false
namespace Go.Proofs.YtbnceohegekihaaDoor.chipServes
open Go.RowKit

/-- those below t -/
def under (o : BitVec 16) (t : Nat) : BitVec 16 := o &&& (BitVec.allOnes 16 >>> (16 - t))
theorem under_get (o : BitVec 16) (t i : Nat) : (under o t).getLsbD i = (o.getLsbD i && decide (i < t)) := by
  unfold under
  by_cases hi : i < 16
  · rw [BitVec.getLsbD_and, BitVec.getLsbD_ushiftRight, BitVec.getLsbD_allOnes]
    congr 1
    rw [decide_eq_decide]; omega
  · rw [BitVec.getLsbD_of_ge _ _ (by omega), BitVec.getLsbD_of_ge _ _ (by omega)]; simp
theorem under_zero (o : BitVec 16) : under o 0 = 0 := by
  apply BitVec.eq_of_getLsbD_eq
  intro i hi
  rw [under_get]; simp
section
variable (p m o : BitVec 16) (t : Nat) (ho : o = p &&& ~~~m)
include ho
theorem rest_get (i : Nat) (hi : i < 16) : ((p &&& ~~~under o t) &&& ~~~m).getLsbD i = (o.getLsbD i && !decide (i < t)) := by
  subst ho
  simp only [BitVec.getLsbD_and, BitVec.getLsbD_not, under_get, hi, decide_true, Bool.true_and]
  cases p.getLsbD i <;> cases m.getLsbD i <;> cases decide (i < t) <;> rfl
theorem all_served (h : (p &&& ~~~under o t) &&& ~~~m = 0) : under o t = o := by
  apply BitVec.eq_of_getLsbD_eq
  intro i hi
  have h1 := rest_get p m o t ho i hi
  rw [h] at h1
  rw [under_get]
  simp at h1
  cases hx : o.getLsbD i
  · rfl
  · simpa using h1 hx
theorem one_more (h : (p &&& ~~~under o t) &&& ~~~m ≠ 0) : t ≤ low ((p &&& ~~~under o t) &&& ~~~m) ∧ low ((p &&& ~~~under o t) &&& ~~~m) < 16 ∧
    (p &&& ~~~under o t) &&& ~~~bit (low ((p &&& ~~~under o t) &&& ~~~m)) = p &&& ~~~under o (low ((p &&& ~~~under o t) &&& ~~~m) + 1) ∧
    (under o t).toNat + 2 ^ low ((p &&& ~~~under o t) &&& ~~~m) = (under o (low ((p &&& ~~~under o t) &&& ~~~m) + 1)).toNat := by
  obtain ⟨h1, h2, h3⟩ := low_is _ h
  generalize hl : low ((p &&& ~~~under o t) &&& ~~~m) = l at *
  have h4 := rest_get p m o t ho l h1
  rw [h2] at h4
  have h5 : o.getLsbD l = true ∧ t ≤ l := by
    cases hx : o.getLsbD l <;> simp [hx] at h4
    exact ⟨rfl, by omega⟩
  have h6 : ∀ i, i < 16 → t ≤ i → i < l → o.getLsbD i = false := by
    intro i hi h7 h8
    have := h3 i h8
    rw [rest_get p m o t ho i hi] at this
    have e : decide (i < t) = false := by simp; omega
    simpa [e] using this
  have hu : under o (l + 1) = under o t ||| bit l := by
    apply BitVec.eq_of_getLsbD_eq
    intro i hi
    rw [BitVec.getLsbD_or, under_get, under_get, chipOften.bit_get _ (by omega) (by omega), Int.toNat_natCast]
    by_cases c1 : i < t
    · have c2 : i < l + 1 := by omega
      have c3 : ¬ i = l := by omega
      simp [c1, c2, c3]
    · by_cases c2 : i < l
      · rw [h6 i hi (by omega) c2]; simp; omega
      · by_cases c3 : i = l
        · subst c3; simp [h5.1]
        · have c4 : ¬ i < l + 1 := by omega
          simp [c1, c3, c4]
  have hd : under o t &&& bit l = 0 := by
    apply BitVec.eq_of_getLsbD_eq
    intro i hi
    rw [BitVec.getLsbD_and, under_get, chipOften.bit_get _ (by omega) (by omega), Int.toNat_natCast]
    by_cases c3 : i = l
    · subst c3
      have : ¬ i < t := by omega
      simp [this]
    · simp [c3]
  refine ⟨h5.2, h1, ?_, ?_⟩
  · rw [hu]
    apply BitVec.eq_of_getLsbD_eq
    intro i hi
    simp only [BitVec.getLsbD_and, BitVec.getLsbD_not, BitVec.getLsbD_or, hi, decide_true, Bool.true_and]
    cases p.getLsbD i <;> cases (under o t).getLsbD i <;> cases (bit (l : Int)).getLsbD i <;> rfl
  · rw [hu, ← BitVec.add_eq_or_of_and_eq_zero _ _ hd, BitVec.toNat_add]
    have hb : (bit (l : Int)).toNat = 2 ^ l := by
      rw [bit, if_pos ⟨by omega, by omega⟩, Int.toNat_natCast, BitVec.toNat_shiftLeft, Nat.shiftLeft_eq, show (1#16).toNat = 1 from rfl, Nat.one_mul]
      exact Nat.mod_eq_of_lt (Nat.pow_lt_pow_right (by decide) h1)
    have hs : (under o t ||| bit (l : Int)).toNat = (under o t).toNat + (bit (l : Int)).toNat := by
      have hn : (under o t).toNat &&& (bit (l : Int)).toNat = 0 := by rw [← BitVec.toNat_and, hd]; rfl
      rw [BitVec.toNat_or]
      have h7 : (under o t).toNat < 2 ^ l := by
        apply Nat.lt_pow_two_of_testBit
        intro i hi
        have : (under o t).getLsbD i = false := by rw [under_get]; simp; intro _; omega
        exact this
      rw [hb]
      have := Nat.two_pow_add_eq_or_of_lt h7 1
      rw [Nat.mul_one] at this
      rw [Nat.or_comm, ← this]; omega
    rw [← BitVec.add_eq_or_of_and_eq_zero _ _ hd, BitVec.toNat_add] at hs
    rw [hs, hb]
end

theorem left_eq (x : BitVec 64) (o : BitVec 16) (ho : o = x.setWidth 16 &&& ~~~((x >>> 16).setWidth 16)) :
    word (x.setWidth 16 &&& ~~~o) ((x >>> 16).setWidth 16) ((x >>> 32).setWidth 32) = x &&& ~~~(o.setWidth 64) := by
  apply BitVec.eq_of_getLsbD_eq
  intro i hi
  have hx := congrArg (fun y => y.getLsbD i) (chipOften.word_restore x)
  simp only [chipOften.word_get] at hx
  rw [chipOften.word_get, BitVec.getLsbD_and, BitVec.getLsbD_not, BitVec.getLsbD_and, BitVec.getLsbD_not, ← hx]
  by_cases c1 : i < 16
  · simp [c1, hi]
  · have h1 : (o.setWidth 64).getLsbD i = false := by
      rw [BitVec.getLsbD_setWidth, BitVec.getLsbD_of_ge o i (by omega)]; simp
    simp only [c1, hi, h1, if_false, decide_true, decide_false, Bool.true_and, Bool.and_false, Bool.not_false, Bool.and_true]

theorem served_eq (x : BitVec 64) : bits .andNot .u64 ((x.toNat : Int) % 65536) ((x.toNat : Int) / 65536 % 65536) = ((x.setWidth 16 &&& ~~~((x >>> 16).setWidth 16)).toNat : Int) := by
  have e1 : (x.toNat : Int) % 65536 = (((x.setWidth 16).setWidth 64).toNat : Int) := by
    rw [BitVec.toNat_setWidth, BitVec.toNat_setWidth]; omega
  have e2 : (x.toNat : Int) / (65536 : Int) % (65536 : Int) = ((((x >>> 16).setWidth 16).setWidth 64).toNat : Int) := by
    rw [BitVec.toNat_setWidth, BitVec.toNat_setWidth, BitVec.toNat_ushiftRight, Nat.shiftRight_eq_div_pow]; omega
  rw [e1, e2, andNot64]
  generalize x.setWidth 16 = a
  generalize (x >>> 16).setWidth 16 = b
  rw [to64_16 (a &&& ~~~b)]
  congr 2
  apply BitVec.eq_of_getLsbD_eq
  intro i hi
  simp only [BitVec.getLsbD_and, BitVec.getLsbD_not, BitVec.getLsbD_setWidth, hi, decide_true, Bool.true_and]
  by_cases c1 : i < 16
  · simp [c1]
  · rw [BitVec.getLsbD_of_ge a i (by omega)]; simp

set_option maxRecDepth 100000 in
set_option maxHeartbeats 2000000 in
theorem law_any (w : World) (hT : Tab w) (x : BitVec 64) :
    Calls Tryd.prog 4 #[.int .u64 (x.toNat : Int)] w fun e w' => e = .returned (.bool true) ∧ Kept [] w w' := by
  have ha := awake_c w hT
  have s1 := fun b p m n W h => restore_c b p m n x W h
  obtain ⟨o, ho⟩ : ∃ o, o = x.setWidth 16 &&& ~~~((x >>> 16).setWidth 16) := ⟨_, rfl⟩
  have q1 := left_eq x o ho
  have q2 := served_eq x
  rw [← ho] at q2
  have q3 := andNot64 x (o.setWidth 64)
  rw [← to64_16 o] at q3
  rw [← q1] at q3
  have t1 := fun b W h => word_c b (x.setWidth 16 &&& ~~~o) ((x >>> 16).setWidth 16) ((x >>> 32).setWidth 32) W h
  generalize x.setWidth 16 = p at *
  generalize (x >>> 16).setWidth 16 = m at *
  generalize (x >>> 32).setWidth 32 = n at *
  have m1 := one_more p m o
  have m2 := all_served p m o
  have x1 := fun b t W h => next_c b (p &&& ~~~under o t) m n W h
  have r1 := fun b t l W h => clear_c b (p &&& ~~~under o t) m n l W h
  have hz : 0 < w.heap.size := hT.size
  generalize word (p &&& ~~~o) m n = Lft at *
  have S1 := Lib.hid s1; have T1 := Lib.hid t1; have X1 := Lib.hid x1; have R1 := Lib.hid r1
  have M1 := Lib.hid m1; have M2 := Lib.hid m2; have HO := Lib.hid ho
  have Q2 := Lib.hid q2; have Q3 := Lib.hid q3
  clear s1 t1 x1 r1 m1 m2 ho q1 q2 q3
  go_enter Tryd.func4, Tryd.ntmps4
  go_wp2_with fail
  refine ha.mono ?_
  clear ha
  rintro e w1 ⟨rfl, k1⟩
  have z1 := k1.size
  have hs : 0 ∉ [w1.heap.size] := by
    intro hx
    have e : 0 = w1.heap.size := by simpa using hx
    omega
  have T := hT.kept k1 (by simp)
  clear hT hz
  go_wp2_with fail
  refine (new_c _).mono ?_
  rintro e w2 ⟨rfl, c2, k2⟩
  have k2 := k2.nil (T := [w1.heap.size])
  go_wp2_with fail
  refine (S1.out _ _ _ _ _ c2).mono ?_
  rintro e w3 ⟨rfl, c3, k3⟩
  have k3 := k2.trans k3
  clear k2 c2
  go_wp2_with fail
  generalize hb : w1.heap.size = b at *
  have Eb := Lib.hid hb
  clear hb
  go_loopw [5, 6, 7] (fun v5 v6 v7 wr => ∃ t k : Nat, k ≤ t ∧ t ≤ 16 ∧ v5 = .int .i64 ((t : Int) - 1) ∧ v6 = .int .u64 ((under o t).toNat : Int) ∧ v7 = .int .i64 k ∧ ChipAt wr b (p &&& ~~~under o t) m n ∧ Kept [b] w1 wr) (fun _ _ v7 _ => (17 - intOf v7).toNat)
  case atStart =>
    refine ⟨0, 0, by omega, by omega, rfl, by rw [under_zero]; rfl, rfl, ?_, k3⟩
    rw [under_zero, show p &&& ~~~(0 : BitVec 16) = p from by rw [show (~~~(0 : BitVec 16)) = BitVec.allOnes 16 from by decide, BitVec.and_allOnes]]
    exact c3
  case round =>
    obtain ⟨t, k, hk1, hk2, rfl, rfl, rfl, c6, k6⟩ := hrel
    clear c3 k3
    have hu := (under o t).isLt
    have xx := X1.out _ _ _ c6 (T.kept k6 hs)
    by_cases hop : (p &&& ~~~under o t) &&& ~~~m = 0
    · have e1 : nextOf (p &&& ~~~under o t) m = .tuple #[.int .i64 0, .bool false] := if_pos hop
      rw [e1] at xx
      have e2 := M2.out t HO.out hop
      rw [e2] at c6 xx ⊢
      clear e1 e2 hop
      go_wp2_with fail
      refine xx.mono ?_
      rintro e w7 ⟨rfl, c7, k7⟩
      have k7 := k6.trans k7.nil
      clear k6 c6
      go_wp2_with fail
      refine (T1.out _ _ c7).mono ?_
      rintro e w8 ⟨rfl, c8, k8⟩
      have k8 := k7.trans k8.nil
      clear k7 c7 c8
      have q2 := Q2.out
      have q3 := Q3.out
      go_wp2
      go_ret
      exact ⟨rfl, k1.step k8 (by intro x hx; right; have e : x = b := (by simpa using hx); have := Eb.out; omega)⟩
    · have e1 : nextOf (p &&& ~~~under o t) m = .tuple #[.int .i64 (low ((p &&& ~~~under o t) &&& ~~~m) : Int), .bool true] := if_neg hop
      rw [e1] at xx
      obtain ⟨g1, g2, g3, g4⟩ := M1.out t HO.out hop
      generalize low ((p &&& ~~~under o t) &&& ~~~m) = l at *
      have r := fun W h => R1.out b t (l : Int) W h
      rw [g3, show errOf (l : Int) = 0 from if_pos ⟨by omega, by omega⟩] at r
      have hp : (2 : Nat) ^ l < 2 ^ 16 := Nat.pow_lt_pow_right (by decide) g2
      have hu2 := (under o (l + 1)).isLt
      have hpi : ((2 : Int) ^ l) = ((2 ^ l : Nat) : Int) := by push_cast; rfl
      have hsh : IntKind.u64.wrap (2 ^ l) = 2 ^ l := by
        rw [IntKind.wrap_u64, hpi]
        generalize (2 : Nat) ^ l = z at *
        omega
      have hfin : IntKind.u64.wrap ((under o t).toNat + 2 ^ l) = ((under o (l + 1)).toNat : Int) := by
        rw [IntKind.wrap_u64, hpi]
        generalize (2 : Nat) ^ l = z at *
        omega
      clear hpi hp
      have HF := Lib.hid hfin
      clear hfin
      have R := Lib.hid r
      clear r e1 hop g3 g4
      go_wp2_with fail
      refine xx.mono ?_
      clear xx
      rintro e w7 ⟨rfl, c7, k7⟩
      have k7 := k6.trans k7.nil
      clear k6 c6
      go_wp2_with fail
      refine (R.out _ c7).mono ?_
      rintro e w8 ⟨rfl, c8, k8⟩
      have k8 := k7.trans k8
      clear k7 c7
      go_wp2
      go_roundw
      case rel => exact ⟨l + 1, k + 1, by omega, by omega, by go_num, by rw [HF.out], by go_num, c8, k8⟩
      case measure => simp [intOf]; omega
end Go.Proofs.YtbnceohegekihaaDoor.chipServes
