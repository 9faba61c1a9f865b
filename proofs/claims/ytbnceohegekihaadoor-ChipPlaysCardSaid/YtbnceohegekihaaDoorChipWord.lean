/-
  The law ChipWord is true at every input. Condition: the table of math/bits holds what its text lays.
-/
import Derived.Test.YtbnceohegekihaaDoorOps
import Derived.Test.YtbnceohegekihaaDoorChipOften
set_option linter.unusedSimpArgs false
set_option linter.unusedVariables false
namespace Go.Proofs.YtbnceohegekihaaDoor.chipWord
open Go.RowKit

theorem nextOf_form (p m : BitVec 16) : ∃ (l : Int) (is : Bool), nextOf p m = .tuple #[.int .i64 l, .bool is] := by
  unfold nextOf
  split
  · exact ⟨_, _, rfl⟩
  · exact ⟨_, _, rfl⟩
theorem word_ofWord (x : BitVec 64) : word (ofWord x).p (ofWord x).m (ofWord x).n = x := chipOften.word_restore x
theorem ofWord_word (s : St) : ofWord (word s.p s.m s.n) = s := by
  obtain ⟨p, m, n⟩ := s
  have h := chipOften.word_get p m n
  unfold ofWord
  congr 1
  · apply BitVec.eq_of_getLsbD_eq
    intro i hi
    rw [BitVec.getLsbD_setWidth, h]
    simp [hi]
  · apply BitVec.eq_of_getLsbD_eq
    intro i hi
    rw [BitVec.getLsbD_setWidth, BitVec.getLsbD_ushiftRight, h]
    have c1 : ¬ 16 + i < 16 := by omega
    have c2 : 16 + i < 32 := by omega
    simp only [hi, c1, c2, if_false, if_true, decide_true, Bool.true_and]
    congr 1; omega
  · apply BitVec.eq_of_getLsbD_eq
    intro i hi
    rw [BitVec.getLsbD_setWidth, BitVec.getLsbD_ushiftRight, h]
    have c1 : ¬ 32 + i < 16 := by omega
    have c2 : ¬ 32 + i < 32 := by omega
    simp only [hi, c1, c2, if_false, decide_true, Bool.true_and]
    congr 1; omega

set_option maxHeartbeats 400000 in
theorem long_walk (w : World) (oa1 oa2 : Option Addr) (n1 n2 cap1 cap2 : Nat) (x : BitVec 64) (hl : 1073741823 < (n1 : Int) ∨ 1073741823 < (n2 : Int)) (hm1 : (n1 : Int) ≤ 9223372036854775807) (hm2 : (n2 : Int) ≤ 9223372036854775807) :
    Calls Tryd.prog 5 #[.slice oa1 n1 cap1, .int .u64 (x.toNat : Int), .slice oa2 n2 cap2] w fun e w' => e = .returned (.bool true) ∧ Kept [] w w' := by
  by_cases hl1 : 1073741823 < (n1 : Int)
  · clear hl
    go_enter Tryd.func5, Tryd.ntmps5
    go_wp2
    go_ret
    exact ⟨rfl, Kept.refl _ _⟩
  · have hl2 : 1073741823 < (n2 : Int) := by omega
    clear hl
    go_enter Tryd.func5, Tryd.ntmps5
    go_wp2
    go_ret
    exact ⟨rfl, Kept.refl _ _⟩

set_option maxRecDepth 100000 in
set_option maxHeartbeats 4000000 in
theorem short_walk (w : World) (hT : Tab w) (oa1 oa2 : Option Addr) (n1 n2 cap1 cap2 : Nat) (x : BitVec 64) (h1 : OpsN w oa1 n1) (h2 : OpsN w oa2 n2) (hl1 : (n1 : Int) ≤ 1073741823) (hl2 : (n2 : Int) ≤ 1073741823) :
    Calls Tryd.prog 5 #[.slice oa1 n1 cap1, .int .u64 (x.toNat : Int), .slice oa2 n2 cap2] w fun e w' => e = .returned (.bool true) ∧ Kept [] w w' := by
  have ha := awake_c w hT
  have H1 := Lib.hid h1
  have H2 := Lib.hid h2
  clear h1 h2
  go_enter Tryd.func5, Tryd.ntmps5
  go_wp2_with fail
  refine ha.mono ?_
  clear ha
  rintro e w1 ⟨rfl, k1⟩
  have k1 : Kept [] w w1 := k1
  have hz : 0 < w.heap.size := hT.size
  go_wp2_with fail
  refine (new_c _).mono ?_
  rintro e w2 ⟨rfl, a2, k2⟩
  have k2 := k1.trans k2
  have ka : w.heap.size ≤ w1.heap.size := k1.size
  have kb : w1.heap.size < w2.heap.size := size_of_at a2
  clear k1
  go_wp2_with fail
  refine (new_c _).mono ?_
  rintro e w3 ⟨rfl, b3, k3⟩
  have a3 : ChipS w3 w1.heap.size ⟨0, 65535#16, 0⟩ := k3.at a2 (by simp)
  have k3 := k2.trans k3
  have b3 : ChipS w3 w2.heap.size ⟨0, 65535#16, 0⟩ := b3
  clear k2 a2
  go_wp2_with fail
  generalize hA : w1.heap.size = A at *
  generalize hB : w2.heap.size = B at *
  have hab : A ≠ B := by omega
  have hwA : w.heap.size ≤ A := by omega
  have hwB : w.heap.size ≤ B := by omega
  clear hA hB ka kb
  generalize (⟨0, 65535#16, 0⟩ : St) = sN at *
  go_loopw [10] (fun v10 wr => ∃ (k : Nat) (s : St), k ≤ n1 ∧ v10 = .int .i64 k ∧ ChipS wr A s ∧ ChipS wr B sN ∧ Kept [] w wr) (fun v10 _ => (n1 - (intOf v10).toNat))
  case atStart => exact ⟨0, _, by omega, rfl, a3, b3, k3⟩
  case round =>
    obtain ⟨k, s, hk, rfl, a4, b4, k4⟩ := hrel
    clear a3 b3 k3
    by_cases hlt : k < n1
    · obtain ⟨z, blk, off, rfl, _, c0, c1, c2, c3⟩ := H1.out.kept k4 (by simp) k hlt
      have hd := does_law A z s wr a4
      go_wp2_with fail
      refine hd.mono ?_
      clear hd c0 c1 c2 c3
      rintro e w5 ⟨rfl, a5, k5⟩
      have b5 : ChipS w5 B _ := k5.at b4 (by simpa using Ne.symm hab)
      have k5 := k4.step k5 (by intro x hx; right; have e : x = A := (by simpa using hx); rw [e]; exact hwA)
      clear a4 b4 k4
      go_wp2
      go_roundw
      case rel => exact ⟨k + 1, _, by omega, by go_num, a5, b5, k5⟩
      case measure => simp [intOf]; omega
    · go_wp2_with fail
      refine (restore_s _ _ _ b4 x).mono ?_
      rintro e w5 ⟨rfl, b5, k5⟩
      have a5 : ChipS w5 A _ := k5.at a4 (by simpa using hab)
      have k5 := k4.step k5 (by intro x hx; right; have e : x = B := (by simpa using hx); rw [e]; exact hwB)
      clear a4 b4 k4
      go_wp2_with fail
      have hw := word_s _ _ _ b5
      rw [word_ofWord] at hw
      refine hw.mono ?_
      clear hw
      rintro e w6 ⟨rfl, b6, k6⟩
      have a6 : ChipS w6 A _ := k6.at a5 (by simp)
      have k6 := k5.trans k6
      clear a5 b5 k5
      go_wp2_with fail
      refine (word_s _ _ _ a6).mono ?_
      rintro e w7 ⟨rfl, a7, k7⟩
      have b7 : ChipS w7 B _ := k7.at b6 (by simp)
      have k7 := k6.trans k7
      clear a6 b6 k6
      go_wp2_with fail
      have hr := restore_s _ _ _ b7 (word s.p s.m s.n)
      rw [ofWord_word] at hr
      refine hr.mono ?_
      clear hr
      rintro e w8 ⟨rfl, b8, k8⟩
      have a8 : ChipS w8 A s := k8.at a7 (by simpa using hab)
      have k8 := k7.step k8 (by intro x hx; right; have e : x = B := (by simpa using hx); rw [e]; exact hwB)
      clear a7 b7 k7
      go_wp2_with fail
      generalize hW : w8 = wo at *
      clear hW
      go_loopw [12] (fun v12 wq => ∃ (j : Nat) (s : St), j ≤ n2 ∧ v12 = .int .i64 j ∧ ChipS wq A s ∧ ChipS wq B s ∧ Kept [] w wq) (fun v12 _ => (n2 - (intOf v12).toNat))
      case atStart => exact ⟨0, _, by omega, rfl, a8, b8, k8⟩
      case round =>
        obtain ⟨j, s, hj, rfl, a4, b4, k4⟩ := hrel
        clear a8 b8 k8
        by_cases hlt2 : j < n2
        · obtain ⟨z, blk, off, rfl, _, d0, d1, d2, d3⟩ := H2.out j hlt2
          have c0 := old_cell k4 d0
          have c1 := old_cell k4 d1
          have c2 := old_cell k4 d2
          have c3 := old_cell k4 d3
          have D0 := Lib.hid d0; have D1 := Lib.hid d1; have D2 := Lib.hid d2; have D3 := Lib.hid d3
          have hd := does_law A z s _ a4
          clear d0 d1 d2 d3
          go_wp2_with fail
          refine hd.mono ?_
          clear hd c0 c1 c2 c3
          rintro e w9 ⟨rfl, a9, k9⟩
          have b9 : ChipS w9 B _ := k9.at b4 (by simpa using Ne.symm hab)
          have k9 := k4.step k9 (by intro x hx; right; have e : x = A := (by simpa using hx); rw [e]; exact hwA)
          clear a4 b4 k4
          have c0 := old_cell k9 D0.out
          have c1 := old_cell k9 D1.out
          have c2 := old_cell k9 D2.out
          have c3 := old_cell k9 D3.out
          have hd := does_law B z s _ b9
          go_wp2_with fail
          refine hd.mono ?_
          clear hd c0 c1 c2 c3 D0 D1 D2 D3
          rintro e w10 ⟨rfl, b10, k10⟩
          have a10 : ChipS w10 A _ := k10.at a9 (by simpa using hab)
          have k10 := k9.step k10 (by intro x hx; right; have e : x = B := (by simpa using hx); rw [e]; exact hwB)
          clear a9 b9 k9
          generalize errOp z = er
          generalize stepOp z s = s' at *
          obtain ⟨l, is, hn⟩ := nextOf_form s'.p s'.m
          have T := hT.kept k10 (by simp)
          have hx1 := next_s A s' _ a10 T
          rw [hn] at hx1
          go_wp2_with fail
          refine hx1.mono ?_
          clear hx1 T
          rintro e w11 ⟨rfl, a11, k11⟩
          have b11 : ChipS w11 B _ := k11.at b10 (by simp)
          have k11 := k10.trans k11
          clear a10 b10 k10
          have T := hT.kept k11 (by simp)
          have hx1 := next_s B s' _ b11 T
          rw [hn] at hx1
          clear hn
          go_wp2_with fail
          refine hx1.mono ?_
          clear hx1 T
          rintro e w12 ⟨rfl, b12, k12⟩
          have a12 : ChipS w12 A _ := k12.at a11 (by simp)
          have k12 := k11.trans k12
          clear a11 b11 k11
          go_wp2
          go_roundw
          case rel => exact ⟨j + 1, _, by omega, by go_num, a12, b12, k12⟩
          case measure => simp [intOf]; omega
        · go_wp2_with fail
          refine (word_s _ _ _ a4).mono ?_
          rintro e w9 ⟨rfl, a9, k9⟩
          have b9 : ChipS w9 B s := k9.at b4 (by simp)
          have k9 := k4.trans k9
          clear a4 b4 k4
          go_wp2_with fail
          refine (word_s _ _ _ b9).mono ?_
          rintro e w10 ⟨rfl, b10, k10⟩
          have k10 := k9.trans k10
          clear a9 b9 k9 b10
          go_wp2
          go_ret
          exact ⟨rfl, k10⟩

theorem law_any (W : World) (hT : Tab W) {H : Type} {enc : TypeId × Value → H} {r : Reach} {b0 : Nat} (v1 : Value) (d1 : DataW H) (p1 : List MemPlace)
    (hv1 : Value.okWide Tryd.prog W r b0 36 v1) (h1 : DataW.Trod enc Tryd.prog W 0 (fun _ => true) true 36 v1 d1 p1) (x : BitVec 64) (v2 : Value) (d2 : DataW H) (p2 : List MemPlace)
    (hv2 : Value.okWide Tryd.prog W r b0 36 v2) (h2 : DataW.Trod enc Tryd.prog W 0 (fun _ => true) true 36 v2 d2 p2) :
    Calls Tryd.prog 5 #[v1, .int .u64 (x.toNat : Int), v2] W fun e w' => e = .returned (.bool true) ∧ Kept [] W w' := by
  obtain ⟨z1, o1⟩ := open_ops hv1 h1
  obtain ⟨z2, o2⟩ := open_ops hv2 h2
  obtain ⟨oa1, n1, cap1, rfl, m1, q1⟩ := o1.form
  obtain ⟨oa2, n2, cap2, rfl, m2, q2⟩ := o2.form
  unfold maxLen at m1 m2
  by_cases h : 1073741823 < (n1 : Int) ∨ 1073741823 < (n2 : Int)
  · exact long_walk W oa1 oa2 n1 n2 cap1 cap2 x h (by omega) (by omega)
  · exact short_walk W hT oa1 oa2 n1 n2 cap1 cap2 x q1 q2 (by omega) (by omega)
end Go.Proofs.YtbnceohegekihaaDoor.chipWord
