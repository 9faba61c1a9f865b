/-
  Contracts of citadelref03 (the document's chip), third part: Word, Restore, New. No condition beyond the block's cells.
-/
import Derived.Test.YtbnceohegekihaaDoorRef3B
set_option linter.unusedSimpArgs false
set_option linter.unusedVariables false
namespace Go.Proofs.YtbnceohegekihaaDoor
open Go.RowKit

theorem word_toNat (p m : BitVec 16) (n : BitVec 32) : (word p m n).toNat = n.toNat * 4294967296 + m.toNat * 65536 + p.toNat := by
  have hp := p.isLt
  have hm := m.isLt
  have hn := n.isLt
  unfold word
  rw [BitVec.toNat_or, BitVec.toNat_or, BitVec.toNat_shiftLeft, BitVec.toNat_shiftLeft, BitVec.toNat_setWidth, BitVec.toNat_setWidth, BitVec.toNat_setWidth]
  rw [Nat.mod_eq_of_lt (show n.toNat < 2 ^ 64 by omega), Nat.mod_eq_of_lt (show m.toNat < 2 ^ 64 by omega), Nat.mod_eq_of_lt (show p.toNat < 2 ^ 64 by omega)]
  rw [Nat.mod_eq_of_lt (show n.toNat <<< 32 < 2 ^ 64 by rw [Nat.shiftLeft_eq]; omega), Nat.mod_eq_of_lt (show m.toNat <<< 16 < 2 ^ 64 by rw [Nat.shiftLeft_eq]; omega)]
  have e1 : n.toNat <<< 32 ||| m.toNat <<< 16 = n.toNat <<< 32 + m.toNat <<< 16 := by
    rw [Nat.shiftLeft_add_eq_or_of_lt]
    rw [Nat.shiftLeft_eq]; omega
  rw [e1]
  have e2 : n.toNat <<< 32 + m.toNat <<< 16 = (n.toNat * 65536 + m.toNat) <<< 16 := by
    rw [Nat.shiftLeft_eq, Nat.shiftLeft_eq, Nat.shiftLeft_eq]; omega
  rw [e2, ← Nat.shiftLeft_add_eq_or_of_lt (by omega), Nat.shiftLeft_eq]
  omega

def part (s : St) (k : Nat) : Int := (s.n.toNat : Int) * 4294967296 + ((s.p.toNat % 2 ^ k : Nat) : Int) + ((s.m.toNat % 2 ^ k : Nat) : Int) * 65536
theorem part_zero (s : St) : part s 0 = (s.n.toNat : Int) * 4294967296 := by
  have e : ∀ x : Nat, x % 2 ^ 0 = 0 := fun x => Nat.mod_one x
  delta part
  rw [e, e]; omega
theorem part_all (s : St) : part s 16 = ((word s.p s.m s.n).toNat : Int) := by
  have hp := s.p.isLt
  have hm := s.m.isLt
  rw [word_toNat, part, Nat.mod_eq_of_lt hp, Nat.mod_eq_of_lt hm]
  generalize s.p.toNat = a
  generalize s.m.toNat = c
  generalize s.n.toNat = d
  omega
theorem mod_more (x k : Nat) : x % 2 ^ (k + 1) = x % 2 ^ k + (if x.testBit k then 2 ^ k else 0) := by
  rw [Nat.mod_pow_succ, Nat.testBit_eq_decide_div_mod_eq]
  have h : x / 2 ^ k % 2 = 0 ∨ x / 2 ^ k % 2 = 1 := by omega
  rcases h with h | h <;> rw [h] <;> simp
theorem part_more (s : St) (k : Nat) (hk : k < 16) : part s (k + 1) = part s k + (if s.p.getLsbD k then 2 ^ k else 0) + (if s.m.getLsbD k then 2 ^ (16 + k) else 0) := by
  unfold part
  rw [mod_more, mod_more]
  have e1 : s.p.toNat.testBit k = s.p.getLsbD k := rfl
  have e2 : s.m.toNat.testBit k = s.m.getLsbD k := rfl
  rw [e1, e2]
  have e3 : (2 : Int) ^ (16 + k) = 65536 * 2 ^ k := by rw [Int.pow_add]; rfl
  rw [e3]
  have e4 : ((2 ^ k : Nat) : Int) = 2 ^ k := by push_cast; rfl
  cases s.p.getLsbD k <;> cases s.m.getLsbD k <;> simp <;> omega
theorem part_bound (s : St) (k : Nat) (hk : k < 16) : 0 ≤ part s k ∧ part s k + 2 ^ k + 2 ^ (16 + k) ≤ 18446744073709551615 := by
  have hn := s.n.isLt
  have hz : 0 < 2 ^ k := Nat.two_pow_pos k
  have h1 : s.p.toNat % 2 ^ k < 2 ^ k := Nat.mod_lt _ hz
  have h2 : s.m.toNat % 2 ^ k < 2 ^ k := Nat.mod_lt _ hz
  have h3 : 2 ^ k ≤ 2 ^ 15 := Nat.pow_le_pow_right (by decide) (by omega)
  have e3 : (2 : Int) ^ (16 + k) = 65536 * 2 ^ k := by rw [Int.pow_add]; rfl
  have e4 : ((2 : Int) ^ k) = ((2 ^ k : Nat) : Int) := by push_cast; rfl
  unfold part
  rw [e3, e4]
  generalize (2 : Nat) ^ k = z at *
  generalize s.p.toNat % z = a at *
  generalize s.m.toNat % z = c at *
  omega

set_option maxHeartbeats 2000000 in
theorem rword_s (b : Nat) (s : St) (w : World) (h : RefS w b s) :
    Calls Tryd.prog 29 #[.pointer (some ⟨b, 0, none⟩)] w (RetR (.int .u64 ((word s.p s.m s.n).toNat : Int)) [] w b s) := by
  have cn := RefAt.n h
  have H := Lib.hid h
  have hn := s.n.isLt
  clear h
  go_enter Tryd.func29, Tryd.ntmps29
  go_wp2
  go_loop [3, 4] (fun v3 v4 => ∃ k : Nat, k ≤ 16 ∧ v4 = .int .i64 k ∧ v3 = .int .u64 (part s k)) (fun _ v4 => 16 - (intOf v4).toNat)
  case atStart => exact ⟨0, by omega, rfl, by rw [part_zero]⟩
  case round =>
    obtain ⟨k, hk, rfl, rfl⟩ := hrel
    clear cn hn
    by_cases hlt : k < 16
    · have c0 := RefAt.p H.out k hlt
      have c1 := RefAt.m H.out k hlt
      have hm := part_more s k hlt
      have hb := part_bound s k hlt
      have hp : (2 : Nat) ^ k < 2 ^ 16 := Nat.pow_lt_pow_right (by decide) hlt
      have hp2 : ((2 : Int) ^ k) = ((2 ^ k : Nat) : Int) := by push_cast; rfl
      have hp4 : (2 : Int) ^ (16 + k) = 65536 * 2 ^ k := by rw [Int.pow_add]; rfl
      have hs1 : IntKind.u64.wrap (2 ^ k) = 2 ^ k := by rw [IntKind.wrap_u64, hp2]; generalize (2 : Nat) ^ k = z at *; omega
      have hs2 : IntKind.u64.wrap (2 ^ (16 + k)) = 2 ^ (16 + k) := by rw [IntKind.wrap_u64, hp4, hp2]; generalize (2 : Nat) ^ k = z at *; omega
      have hpp : (0 : Int) ≤ 2 ^ k := Int.pow_nonneg (by decide)
      have hpp2 : (0 : Int) ≤ 2 ^ (16 + k) := Int.pow_nonneg (by decide)
      cases hvp : s.p.getLsbD k
      all_goals cases hvm : s.m.getLsbD k
      all_goals
        simp only [hvp, hvm, if_true, if_false, Bool.false_eq_true, Int.add_zero] at c0 c1 hm
        have w1 : IntKind.u64.wrap (part s k + 2 ^ k) = part s k + 2 ^ k := by rw [IntKind.wrap_u64]; omega
        have w2 : IntKind.u64.wrap (part s k + 2 ^ (16 + k)) = part s k + 2 ^ (16 + k) := by rw [IntKind.wrap_u64]; omega
        have w3 : IntKind.u64.wrap (part s k + 2 ^ k + 2 ^ (16 + k)) = part s k + 2 ^ k + 2 ^ (16 + k) := by rw [IntKind.wrap_u64]; omega
        have HM := Lib.hid hm
        clear hm hb hp hp2 hp4 hvp hvm hpp hpp2
        go_wp2
        go_round
        case rel => exact ⟨k + 1, by omega, by go_num, by rw [HM.out]⟩
        case measure => simp [intOf]; omega
    · obtain rfl : k = 16 := by omega
      have e := part_all s
      have E := Lib.hid e
      clear e
      go_wp2
      go_ret
      exact ⟨ret_u64 E.out, H.out, Kept.refl _ _⟩

theorem shr_bit (x : BitVec 64) (i : Nat) : (((x.toNat : Int) / 2 ^ i).tmod 2 == 1) = x.getLsbD i := by
  rw [Int.tmod_eq_emod_of_nonneg (Int.ediv_nonneg (by omega) (Int.pow_nonneg (by decide)))]
  have e1 : ((x.toNat : Int) / 2 ^ i % 2) = ((x.toNat / 2 ^ i % 2 : Nat) : Int) := by push_cast; rfl
  rw [e1]
  show _ = x.toNat.testBit i
  rw [Nat.testBit_eq_decide_div_mod_eq, Bool.eq_iff_iff]
  simp
  omega

set_option maxHeartbeats 2000000 in
theorem rrestore_s (b : Nat) (s : St) (x : BitVec 64) (w : World) (h : RefS w b s) :
    Calls Tryd.prog 34 #[.pointer (some ⟨b, 0, none⟩), .int .u64 (x.toNat : Int)] w (RetR (.tuple #[]) [b] w b (ofWord x)) := by
  have H := Lib.hid h
  clear h
  have hx := x.isLt
  go_enter Tryd.func34, Tryd.ntmps34
  go_wp2
  go_loopw [4] (fun v4 wr => ∃ (k : Nat) (p m : BitVec 16), k ≤ 16 ∧ v4 = .int .i64 k ∧ RefAt wr b p m (s.n.toNat : Int) ∧ Kept [b] w wr ∧ Hid (∀ j, j < k → p.getLsbD j = x.getLsbD j ∧ m.getLsbD j = x.getLsbD (16 + j))) (fun v4 _ => 16 - (intOf v4).toNat)
  case atStart => exact ⟨0, s.p, s.m, by omega, rfl, H.out, Kept.refl _ _, fun j hj => absurd hj (by omega)⟩
  case round =>
    obtain ⟨k, p, m, hk, rfl, h1, k1, hz⟩ := hrel
    by_cases hlt : k < 16
    · have c0 := h1.p k hlt
      have c1 := h1.m k hlt
      have f0 := h1.free k
      have f1 := h1.free (16 + k)
      have s0 := shr_bit x k
      have s1 := shr_bit x (16 + k)
      have H1 := Lib.hid h1
      clear h1
      go_wp2
      go_region
      go_wp2
      go_region
      go_wp2
      go_roundw
      case rel =>
        refine ⟨k + 1, setB p k (x.getLsbD k), setB m k (x.getLsbD (16 + k)), by omega, by go_num, (H1.out.setP k hlt _).setM k hlt _, ((k1.setCell (.inl (by simp)) _).setCell (.inl (by simp)) _).drew.drew, fun j hj => ?_⟩
        rw [setB_get _ _ _ hlt _ (by omega), setB_get _ _ _ hlt _ (by omega)]
        by_cases e : j = k
        · subst e; simp
        · rw [if_neg e, if_neg e]; exact hz.out j (by omega)
      case measure => simp [intOf]; omega
    · obtain rfl : k = 16 := by omega
      have f := h1.free 32
      have cn := RefAt.n h1
      have H1 := Lib.hid h1
      clear h1
      go_wp2
      go_end0
      refine ⟨rfl, ?_, k1.setCell (.inl (by simp)) _⟩
      have e1 : (ofWord x).p = p := by
        apply BitVec.eq_of_getLsbD_eq
        intro i hi
        rw [(hz.out i hi).1]
        simp [ofWord, hi]
      have e2 : (ofWord x).m = m := by
        apply BitVec.eq_of_getLsbD_eq
        intro i hi
        rw [(hz.out i hi).2]
        simp [ofWord, hi]
      have e3 : ((ofWord x).n.toNat : Int) = (x.toNat : Int) / 4294967296 := by
        show (((x >>> 32).setWidth 32).toNat : Int) = _
        rw [BitVec.toNat_setWidth, BitVec.toNat_ushiftRight, Nat.shiftRight_eq_div_pow]; omega
      unfold RefS
      rw [e1, e2, e3]
      exact H1.out.setN _

theorem refCells_zero : refCells 0 0 0 = #[Value.bool false, Value.bool false, Value.bool false, Value.bool false, Value.bool false, Value.bool false,
    Value.bool false, Value.bool false, Value.bool false, Value.bool false, Value.bool false, Value.bool false,
    Value.bool false, Value.bool false, Value.bool false, Value.bool false, Value.bool false, Value.bool false,
    Value.bool false, Value.bool false, Value.bool false, Value.bool false, Value.bool false, Value.bool false,
    Value.bool false, Value.bool false, Value.bool false, Value.bool false, Value.bool false, Value.bool false,
    Value.bool false, Value.bool false, Value.int IntKind.i64 0] := by rfl
set_option maxHeartbeats 2000000 in
theorem rnew_s (w : World) :
    Calls Tryd.prog 16 #[] w (RetR (.pointer (some ⟨w.heap.size, 0, none⟩)) [] w w.heap.size ⟨0, 65535#16, 0⟩) := by
  have h0 : RefAt (w.alloc (.cells (refCells 0 0 0) 54)) w.heap.size 0 0 0 := at_alloc_new w _
  have k0 : Kept [w.heap.size] w (w.alloc (.cells (refCells 0 0 0) 54)) := (Kept.refl _ _).alloc _
  rw [refCells_zero] at h0 k0
  have H0 := Lib.hid h0
  have K0 := Lib.hid k0
  clear h0 k0
  go_enter Tryd.func16, Tryd.ntmps16
  go_wp2
  generalize hb : w.heap.size = b at *
  have HB := Lib.hid hb
  clear hb
  go_loopw [2] (fun v2 wr => ∃ (k : Nat) (m : BitVec 16), k ≤ 16 ∧ v2 = .int .i64 k ∧ RefAt wr b 0 m 0 ∧ Kept [b] w wr ∧ Hid (∀ j, j < k → m.getLsbD j = true)) (fun v2 _ => 16 - (intOf v2).toNat)
  case atStart => exact ⟨0, 0, by omega, rfl, H0.out, K0.out, fun j hj => absurd hj (by omega)⟩
  case round =>
    obtain ⟨k, m, hk, rfl, h1, k1, hz⟩ := hrel
    by_cases hlt : k < 16
    · have c1 := h1.m k hlt
      have f1 := h1.free (16 + k)
      have H1 := Lib.hid h1
      clear h1
      go_wp2
      go_roundw
      case rel =>
        refine ⟨k + 1, setB m k true, by omega, by go_num, H1.out.setM k hlt _, k1.setCell (.inl (by simp)) _, fun j hj => ?_⟩
        rw [setB_get _ _ _ hlt _ (by omega)]
        by_cases e : j = k
        · subst e; simp
        · rw [if_neg e]; exact hz.out j (by omega)
      case measure => simp [intOf]; omega
    · obtain rfl : k = 16 := by omega
      have H1 := Lib.hid h1
      clear h1
      go_wp2
      go_ret
      have e : m = 65535#16 := by
        apply BitVec.eq_of_getLsbD_eq
        intro i hi
        rw [hz.out i hi, show (65535#16) = BitVec.allOnes 16 from by decide, BitVec.getLsbD_allOnes]
        simp [hi]
      subst e
      exact ⟨rfl, H1.out, k1.drop (by intro x hx; right; have e : x = b := (by simpa using hx); rw [e, ← HB.out]; exact Nat.le_refl _)⟩
end Go.Proofs.YtbnceohegekihaaDoor
