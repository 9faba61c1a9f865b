/-
  The law ChipOften is true at every input. Condition: the table of math/bits holds what its text lays.
-/
import Derived.Test.YtbnceohegekihaaDoorChipD
set_option linter.unusedSimpArgs false
set_option linter.unusedVariables false
namespace Go.Proofs.YtbnceohegekihaaDoor.chipOften
open Go.RowKit

/-! ### the plain law -/
theorem word_get (p m : BitVec 16) (n : BitVec 32) (i : Nat) : (word p m n).getLsbD i = if i < 16 then p.getLsbD i else if i < 32 then m.getLsbD (i - 16) else n.getLsbD (i - 32) := by
  unfold word
  simp only [BitVec.getLsbD_or, BitVec.getLsbD_shiftLeft, BitVec.getLsbD_setWidth]
  by_cases h1 : i < 16
  · have h2 : i < 32 := by omega
    have h3 : i < 64 := by omega
    simp [h1, h2, h3]
  · by_cases h2 : i < 32
    · have h3 : i < 64 := by omega
      have h4 : i - 16 < 64 := by omega
      have h5 : 16 ≤ i := by omega
      simp [h1, h2, h3, h4, BitVec.getLsbD_of_ge _ _ h5]
    · have h5 : 16 ≤ i := by omega
      have h6 : 16 ≤ i - 16 := by omega
      by_cases h3 : i < 64
      · have h4 : i - 16 < 64 := by omega
        have h7 : i - 32 < 64 := by omega
        simp [h1, h2, h3, h4, h7, BitVec.getLsbD_of_ge _ _ h5, BitVec.getLsbD_of_ge _ _ h6]
      · have h7 : 32 ≤ i - 32 := by omega
        simp [h1, h2, h3, BitVec.getLsbD_of_ge _ _ h5, BitVec.getLsbD_of_ge _ _ h7]
theorem word_restore (x : BitVec 64) : word (x.setWidth 16) ((x >>> 16).setWidth 16) ((x >>> 32).setWidth 32) = x := by
  apply BitVec.eq_of_getLsbD_eq
  intro i hi
  rw [word_get]
  by_cases h1 : i < 16
  · simp [h1]
  · by_cases h2 : i < 32
    · have h3 : i - 16 < 16 := by omega
      simp [h1, h2, h3]
      congr 1; omega
    · have h3 : i - 32 < 32 := by omega
      simp [h1, h2, h3]
      congr 1; omega
theorem bit_get (line : Int) (h0 : 0 ≤ line) (h1 : line < 16) (i : Nat) : (bit line).getLsbD i = decide (i = line.toNat) := by
  rw [bit, if_pos ⟨h0, h1⟩]
  have hL : line.toNat < 16 := by omega
  generalize line.toNat = L at *
  by_cases hi : i < 16
  · simp [BitVec.getLsbD_shiftLeft, hi]
    by_cases h4 : i < L
    · simp [h4]; omega
    · simp [h4]
      by_cases h5 : i = L
      · simp [h5]
      · simp [h5]; omega
  · rw [BitVec.getLsbD_of_ge _ _ (by omega)]
    simp; omega
theorem bit64_get (L : Nat) (i : Nat) (hi : i < 64) (hL : L < 64) : (1#64 <<< L).getLsbD i = decide (i = L) := by
  simp [BitVec.getLsbD_shiftLeft, hi]
  by_cases h4 : i < L
  · simp [h4]; omega
  · simp [h4]
    by_cases h5 : i = L
    · simp [h5]
    · simp [h5]; omega

section
variable (p m : BitVec 16) (n : BitVec 32) (line : Int) (h0 : 0 ≤ line) (h1 : line < 16)
include h0 h1
theorem once_eq (x : BitVec 64) : word (x.setWidth 16 ||| bit line) ((x >>> 16).setWidth 16) ((x >>> 32).setWidth 32) = x ||| 1#64 <<< line.toNat := by
  apply BitVec.eq_of_getLsbD_eq
  intro i hi
  have hx := congrArg (fun y => y.getLsbD i) (word_restore x)
  simp only [word_get] at hx
  rw [word_get, BitVec.getLsbD_or, BitVec.getLsbD_or, bit64_get _ _ hi (by omega), bit_get line h0 h1, ← hx]
  by_cases c1 : i < 16
  · simp [c1]
  · have c2 : ¬ i = line.toNat := by omega
    simp only [c1, c2, if_false, decide_false, Bool.or_false]
theorem hidden_eq : word p (m ||| bit line) n = word p m n ||| (1#64 <<< line.toNat) <<< 16 := by
  apply BitVec.eq_of_getLsbD_eq
  intro i hi
  rw [BitVec.getLsbD_or, word_get, word_get, BitVec.getLsbD_or, bit_get line h0 h1, BitVec.getLsbD_shiftLeft]
  by_cases c1 : i < 16
  · simp [c1]
  · rw [bit64_get _ _ (by omega) (by omega)]
    by_cases c2 : i < 32
    · simp [c1, c2, hi]
    · have c3 : ¬ i - 16 = line.toNat := by omega
      simp only [c1, c2, c3, if_false, decide_false, Bool.or_false, Bool.and_false]
theorem open_eq : word p ((m ||| bit line) &&& ~~~bit line) n = word p m n &&& ~~~((1#64 <<< line.toNat) <<< 16) := by
  apply BitVec.eq_of_getLsbD_eq
  intro i hi
  rw [BitVec.getLsbD_and, BitVec.getLsbD_not, word_get, word_get, BitVec.getLsbD_and, BitVec.getLsbD_not, BitVec.getLsbD_or, bit_get line h0 h1, BitVec.getLsbD_shiftLeft]
  by_cases c1 : i < 16
  · simp [c1, hi]
  · rw [bit64_get _ _ (by omega) (by omega)]
    by_cases c2 : i < 32
    · have c4 : i - 16 < 16 := by omega
      simp only [c1, c2, c4, hi, if_false, if_true, decide_true, decide_false, Bool.true_and, Bool.not_false]
      cases m.getLsbD (i - 16) <;> cases decide (i - 16 = line.toNat) <;> rfl
    · have c3 : ¬ i - 16 = line.toNat := by omega
      simp only [c1, c2, c3, hi, if_false, decide_true, decide_false, Bool.and_false, Bool.not_false, Bool.and_true]
/-- while it is masked the line is not told -/
theorem masked_not (h : (p ||| bit line) &&& ~~~(m ||| bit line) ≠ 0) : (low ((p ||| bit line) &&& ~~~(m ||| bit line)) : Int) ≠ line := by
  intro e
  have := (low_is _ h).2.1
  rw [show low ((p ||| bit line) &&& ~~~(m ||| bit line)) = line.toNat from by omega] at this
  rw [BitVec.getLsbD_and, BitVec.getLsbD_not, BitVec.getLsbD_or, BitVec.getLsbD_or, bit_get line h0 h1] at this
  simp at this
/-- afterwards one is told that is not greater -/
theorem open_is : (p ||| bit line) &&& ~~~((m ||| bit line) &&& ~~~bit line) ≠ 0 ∧ (low ((p ||| bit line) &&& ~~~((m ||| bit line) &&& ~~~bit line)) : Int) ≤ line := by
  have hb : ((p ||| bit line) &&& ~~~((m ||| bit line) &&& ~~~bit line)).getLsbD line.toNat = true := by
    have c : line.toNat < 16 := by omega
    simp only [BitVec.getLsbD_and, BitVec.getLsbD_not, BitVec.getLsbD_or, bit_get line h0 h1, c, decide_true, Bool.or_true, Bool.true_and, Bool.not_true, Bool.and_false, Bool.not_false]
  have hne : (p ||| bit line) &&& ~~~((m ||| bit line) &&& ~~~bit line) ≠ 0 := by
    intro e
    rw [e] at hb
    simp at hb
  refine ⟨hne, ?_⟩
  obtain ⟨_, _, h3⟩ := low_is _ hne
  by_cases h : (low ((p ||| bit line) &&& ~~~((m ||| bit line) &&& ~~~bit line)) : Int) ≤ line
  · exact h
  · have := h3 line.toNat (by omega)
    rw [hb] at this
    cases this
end

/-! ### the walk -/
set_option maxHeartbeats 400000 in
theorem out_walk (x line often : Int) (w : World) (hT : Tab w) (h : line < 0 ∨ 15 < line ∨ often < 1 ∨ 100 < often) :
    Calls Tryd.prog 3 #[.int .u64 x, .int .i64 line, .int .i64 often] w fun e w' => e = .returned (.bool true) ∧ Kept [] w w' := by
  have ha := awake_c w hT
  by_cases h1 : line < 0
  · go_enter Tryd.func3, Tryd.ntmps3
    go_wp2_with fail
    refine ha.mono ?_
    rintro e w1 ⟨rfl, k1⟩
    go_wp2
    go_ret
    exact ⟨rfl, k1⟩
  · by_cases h2 : 15 < line
    · go_enter Tryd.func3, Tryd.ntmps3
      go_wp2_with fail
      refine ha.mono ?_
      rintro e w1 ⟨rfl, k1⟩
      go_wp2
      go_ret
      exact ⟨rfl, k1⟩
    · by_cases h3 : often < 1
      · go_enter Tryd.func3, Tryd.ntmps3
        go_wp2_with fail
        refine ha.mono ?_
        rintro e w1 ⟨rfl, k1⟩
        go_wp2
        go_ret
        exact ⟨rfl, k1⟩
      · have h4 : 100 < often := by omega
        go_enter Tryd.func3, Tryd.ntmps3
        go_wp2_with fail
        refine ha.mono ?_
        rintro e w1 ⟨rfl, k1⟩
        go_wp2
        go_ret
        exact ⟨rfl, k1⟩

theorem or_again (p c : BitVec 16) : (p ||| c) ||| c = p ||| c := by rw [BitVec.or_assoc, BitVec.or_self]

set_option maxRecDepth 100000 in
set_option maxHeartbeats 2000000 in
theorem in_walk (x : BitVec 64) (line often : Int) (w : World) (hT : Tab w) (h0 : 0 ≤ line) (h1 : line ≤ 15) (h2 : 1 ≤ often) (h3 : often ≤ 100) :
    Calls Tryd.prog 3 #[.int .u64 (x.toNat : Int), .int .i64 line, .int .i64 often] w fun e w' => e = .returned (.bool true) ∧ Kept [] w w' := by
  have ha := awake_c w hT
  have er : errOf line = 0 := if_pos ⟨h0, by omega⟩
  have hB : IntKind.u64.wrap (2 ^ line.toNat) = ((1#64 <<< line.toNat).toNat : Int) := by
    have := shl64 1#64 line.toNat
    rw [← this]; simp
  have q1 := once_eq line h0 (by omega) x
  have q2 := hidden_eq (x.setWidth 16 ||| bit line) ((x >>> 16).setWidth 16) ((x >>> 32).setWidth 32) line h0 (by omega)
  have q3 := open_eq (x.setWidth 16 ||| bit line) ((x >>> 16).setWidth 16) ((x >>> 32).setWidth 32) line h0 (by omega)
  have q4 := masked_not (x.setWidth 16) ((x >>> 16).setWidth 16) line h0 (by omega)
  have q5 := open_is (x.setWidth 16) ((x >>> 16).setWidth 16) line h0 (by omega)
  have s1 := fun b p m n W h => restore_c b p m n x W h
  generalize 1#64 <<< line.toNat = B at *
  generalize x.setWidth 16 = p at *
  generalize (x >>> 16).setWidth 16 = m at *
  generalize (x >>> 32).setWidth 32 = n at *
  have t1 := fun b W h => word_c b (p ||| bit line) m n W h
  have t2 := fun b W h => word_c b (p ||| bit line) (m ||| bit line) n W h
  have t3 := fun b W h => word_c b (p ||| bit line) ((m ||| bit line) &&& ~~~bit line) n W h
  have o1 := or64 x B
  have o2 := shl64_16 B
  have o3 := or64 (word (p ||| bit line) m n) (B <<< 16)
  have o4 := andNot64 (word (p ||| bit line) m n) (B <<< 16)
  rw [← q1] at o1
  rw [← q2] at o3
  rw [← q3] at o4
  generalize word (p ||| bit line) m n = O at *
  generalize word (p ||| bit line) (m ||| bit line) n = Hd at *
  generalize word (p ||| bit line) ((m ||| bit line) &&& ~~~bit line) n = Op at *
  generalize B <<< 16 = C at *
  have r1 := fun b W h => raise_c b p m n line W h
  have r2 := fun b W h => raise_c b (p ||| bit line) m n line W h
  have r3 := fun b W h => mask_true_c b (p ||| bit line) m n line W h
  have r4 := fun b W h => mask_false_c b (p ||| bit line) (m ||| bit line) n line W h
  have x1 := fun b W h => next_c b (p ||| bit line) (m ||| bit line) n W h
  have x2 := fun b W h => next_c b (p ||| bit line) ((m ||| bit line) &&& ~~~bit line) n W h
  rw [or_again] at r2
  rw [er] at r1 r2 r3 r4
  have n2 : nextOf (p ||| bit line) ((m ||| bit line) &&& ~~~bit line) = .tuple #[.int .i64 (low ((p ||| bit line) &&& ~~~((m ||| bit line) &&& ~~~bit line)) : Int), .bool true] := if_neg q5.1
  rw [n2] at x2
  have l2 := q5.2
  generalize low ((p ||| bit line) &&& ~~~((m ||| bit line) &&& ~~~bit line)) = L2 at *
  have n1 : nextOf (p ||| bit line) (m ||| bit line) = .tuple #[.int .i64 0, .bool false] ∨ ∃ L1 : Nat, ((L1 : Int) == line) = false ∧ nextOf (p ||| bit line) (m ||| bit line) = .tuple #[.int .i64 (L1 : Int), .bool true] := by
    by_cases hz : (p ||| bit line) &&& ~~~(m ||| bit line) = 0
    · exact .inl (if_pos hz)
    · exact .inr ⟨_, by have := q4 hz; simpa using this, if_neg hz⟩
  clear q1 q2 q3 q4 q5 n2 er
  generalize (p ||| bit line) = P at *
  generalize (m ||| bit line) = M at *
  generalize (M &&& ~~~bit line) = M2 at *
  have S1 := Lib.hid s1; have T1 := Lib.hid t1; have T2 := Lib.hid t2; have T3 := Lib.hid t3
  have R1 := Lib.hid r1; have R2 := Lib.hid r2; have R3 := Lib.hid r3; have R4 := Lib.hid r4
  have X1 := Lib.hid x1; have X2 := Lib.hid x2; have N1 := Lib.hid n1
  have O1 := Lib.hid o1; have O2 := Lib.hid o2; have O3 := Lib.hid o3; have O4 := Lib.hid o4; have HB := Lib.hid hB
  have hz : 0 < w.heap.size := hT.size
  clear s1 t1 t2 t3 r1 r2 r3 r4 x1 x2 n1 o1 o2 o3 o4 hB
  go_enter Tryd.func3, Tryd.ntmps3
  go_wp2_with fail
  refine ha.mono ?_
  clear ha
  rintro e w1 ⟨rfl, k1⟩
  have z1 := k1.size
  have hs : 0 ∉ [w1.heap.size] := by
    intro hx
    have e : 0 = w1.heap.size := by simpa using hx
    omega
  have T := hT.kept k1 (by simp)
  clear hT hz
  go_wp2_with fail
  refine (new_c _).mono ?_
  rintro e w2 ⟨rfl, c2, k2⟩
  have k2 := k2.nil (T := [w1.heap.size])
  go_wp2_with fail
  refine (S1.out _ _ _ _ _ c2).mono ?_
  rintro e w3 ⟨rfl, c3, k3⟩
  have k3 := k2.trans k3
  clear k2 c2
  go_wp2_with fail
  refine (R1.out _ _ c3).mono ?_
  rintro e w4 ⟨rfl, c4, k4⟩
  have k4 := k3.trans k4
  clear k3 c3
  go_wp2_with fail
  refine (T1.out _ _ c4).mono ?_
  rintro e w5 ⟨rfl, c5, k5⟩
  have k5 := k4.trans k5.nil
  clear k4 c4
  go_wp2_with fail
  generalize hb : w1.heap.size = b at *
  have Eb := Lib.hid hb
  clear hb
  go_loopw [11] (fun i wr => ∃ k : Nat, 1 ≤ k ∧ (k : Int) ≤ often ∧ i = .int .i64 k ∧ ChipAt wr b P m n ∧ Kept [b] w1 wr) (fun i _ => (often - intOf i).toNat)
  case atStart => exact ⟨1, by omega, by omega, rfl, c5, k5⟩
  case round =>
    obtain ⟨k, hk1, hk2, rfl, c6, k6⟩ := hrel
    clear c5 k5
    by_cases hlt : (k : Int) < often
    · go_wp2_with fail
      refine (R2.out _ _ c6).mono ?_
      rintro e w7 ⟨rfl, c7, k7⟩
      have k7 := k6.trans k7
      clear k6 c6
      go_wp2
      go_roundw
      case rel => exact ⟨k + 1, by omega, by omega, by go_num, c7, k7⟩
      case measure => simp [intOf]; omega
    · go_wp2_with fail
      refine (T1.out _ _ c6).mono ?_
      rintro e w7 ⟨rfl, c7, k7⟩
      have k7 := k6.trans k7.nil
      clear k6 c6
      go_wp2_with fail
      refine (R3.out _ _ c7).mono ?_
      rintro e w8 ⟨rfl, c8, k8⟩
      have k8 := k7.trans k8
      clear k7 c7
      rcases N1.out with n1 | ⟨L1, hl1, n1⟩
      all_goals
        have xx := X1.out _ _ c8 (T.kept k8 hs)
        rw [n1] at xx
        clear n1
        go_wp2_with fail
        refine xx.mono ?_
        clear xx
        rintro e w9 ⟨rfl, c9, k9⟩
        have k9 := k8.trans k9.nil
        clear k8 c8
        go_wp2_with fail
        refine (T2.out _ _ c9).mono ?_
        rintro e w10 ⟨rfl, c10, k10⟩
        have k10 := k9.trans k10.nil
        clear k9 c9
        go_wp2_with fail
        refine (R4.out _ _ c10).mono ?_
        rintro e w11 ⟨rfl, c11, k11⟩
        have k11 := k10.trans k11
        clear k10 c10
        go_wp2_with fail
        refine (X2.out _ _ c11 (T.kept k11 hs)).mono ?_
        rintro e w12 ⟨rfl, c12, k12⟩
        have k12 := k11.trans k12.nil
        clear k11 c11
        go_wp2_with fail
        refine (T3.out _ _ c12).mono ?_
        rintro e w13 ⟨rfl, c13, k13⟩
        have k13 := k12.trans k13.nil
        clear k12 c12 c13
        have o1 := O1.out; have o2 := O2.out; have o3 := O3.out; have o4 := O4.out; have hB := HB.out
        go_wp2
        go_ret
        exact ⟨rfl, k1.step k13 (by intro x hx; right; have e : x = b := (by simpa using hx); have := Eb.out; omega)⟩

theorem law_any (W : World) (hT : Tab W) (x : BitVec 64) (line : Int) (hl : -9223372036854775808 ≤ line ∧ line ≤ 9223372036854775807) (often : Int) (ho : -9223372036854775808 ≤ often ∧ often ≤ 9223372036854775807) :
    Calls Tryd.prog 3 #[.int .u64 (x.toNat : Int), .int .i64 line, .int .i64 often] W fun e w' => e = .returned (.bool true) ∧ Kept [] W w' := by
  by_cases h : line < 0 ∨ 15 < line ∨ often < 1 ∨ 100 < often
  · exact out_walk _ line often W hT h
  · exact in_walk x line often W hT (by omega) (by omega) (by omega) (by omega)
end Go.Proofs.YtbnceohegekihaaDoor.chipOften
