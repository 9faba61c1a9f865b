/-
  Contracts of citadelref03 (the document's chip), second part; and of chip's Pending, Masked. No condition beyond the block's cells.
-/
import Derived.Test.YtbnceohegekihaaDoorRef3
import Derived.RegionTactic
set_option linter.unusedSimpArgs false
set_option linter.unusedVariables false
namespace Go.Proofs.YtbnceohegekihaaDoor
open Go.RowKit

/-- a line's bit, false where there is none -/
def lineOf (p : BitVec 16) (l : Int) : Bool := decide (0 ≤ l ∧ l < 16) && p.getLsbD l.toNat

theorem shift_bit (p : BitVec 16) (i : Nat) : (bits .and .u16 ((p.toNat : Int) / 2 ^ i) 1 == 1) = p.getLsbD i := by
  have e1 : ((p.toNat : Int) / 2 ^ i) = ((p >>> i).toNat : Int) := shr16 p i
  have e2 : (1 : Int) = ((1#16).toNat : Int) := by decide
  rw [e1]
  conv => lhs; rw [e2]
  rw [and16, toNat_inj]
  rw [Bool.eq_iff_iff]
  simp only [beq_iff_eq]
  constructor
  · intro h
    have := congrArg (fun x => x.getLsbD 0) h
    simpa using this
  · intro h
    apply BitVec.eq_of_getLsbD_eq
    intro j hj
    rw [BitVec.getLsbD_and, BitVec.getLsbD_ushiftRight]
    cases j with
    | zero => simpa using h
    | succ j => simp [BitVec.getLsbD_one]

set_option maxHeartbeats 1000000 in
theorem pending_s (b : Nat) (s : St) (line : Int) (w : World) (h : ChipS w b s) :
    Calls Tryd.prog 23 #[.pointer (some ⟨b, 0, none⟩), .int .i64 line] w (RetS (.bool (lineOf s.p line)) [] w b s) := by
  have ht := fun W => there_c line W
  unfold lineOf
  have hc := ChipAt.cells h
  by_cases hl : 0 ≤ line ∧ line < 16
  · have hd : decide (0 ≤ line ∧ line < 16) = true := by simpa using hl
    rw [hd] at ht ⊢
    rw [Bool.true_and]
    have HT := Lib.hid ht
    obtain ⟨i, rfl⟩ := Int.eq_ofNat_of_zero_le hl.1
    rw [Int.toNat_natCast]
    have hi : i < 16 := by omega
    have hs := shift_bit s.p i
    obtain ⟨c0, c1, c2, f0, f1, f2⟩ := hc
    have H := Lib.hid h
    generalize s.p.getLsbD i = v at *
    clear hd ht hl h
    go_enter Tryd.func23, Tryd.ntmps23
    go_wp2_with (go_at_call 35; refine (HT.out _).mono ?_; rintro e w' ⟨rfl, rfl⟩)
    go_ret
    exact ⟨rfl, H.out, Kept.refl _ _⟩
  · have hd : decide (0 ≤ line ∧ line < 16) = false := by simpa using hl
    rw [hd] at ht ⊢
    rw [Bool.false_and]
    have HT := Lib.hid ht
    have H := Lib.hid h
    clear hd ht hl h hc
    go_enter Tryd.func23, Tryd.ntmps23
    go_wp2_with (go_at_call 35; refine (HT.out _).mono ?_; rintro e w' ⟨rfl, rfl⟩)
    go_ret
    exact ⟨rfl, H.out, Kept.refl _ _⟩
set_option maxHeartbeats 1000000 in
theorem masked_s (b : Nat) (s : St) (line : Int) (w : World) (h : ChipS w b s) :
    Calls Tryd.prog 25 #[.pointer (some ⟨b, 0, none⟩), .int .i64 line] w (RetS (.bool (lineOf s.m line)) [] w b s) := by
  have ht := fun W => there_c line W
  unfold lineOf
  have hc := ChipAt.cells h
  by_cases hl : 0 ≤ line ∧ line < 16
  · have hd : decide (0 ≤ line ∧ line < 16) = true := by simpa using hl
    rw [hd] at ht ⊢
    rw [Bool.true_and]
    have HT := Lib.hid ht
    obtain ⟨i, rfl⟩ := Int.eq_ofNat_of_zero_le hl.1
    rw [Int.toNat_natCast]
    have hi : i < 16 := by omega
    have hs := shift_bit s.m i
    obtain ⟨c0, c1, c2, f0, f1, f2⟩ := hc
    have H := Lib.hid h
    generalize s.m.getLsbD i = v at *
    clear hd ht hl h
    go_enter Tryd.func25, Tryd.ntmps25
    go_wp2_with (go_at_call 35; refine (HT.out _).mono ?_; rintro e w' ⟨rfl, rfl⟩)
    go_ret
    exact ⟨rfl, H.out, Kept.refl _ _⟩
  · have hd : decide (0 ≤ line ∧ line < 16) = false := by simpa using hl
    rw [hd] at ht ⊢
    rw [Bool.false_and]
    have HT := Lib.hid ht
    have H := Lib.hid h
    clear hd ht hl h hc
    go_enter Tryd.func25, Tryd.ntmps25
    go_wp2_with (go_at_call 35; refine (HT.out _).mono ?_; rintro e w' ⟨rfl, rfl⟩)
    go_ret
    exact ⟨rfl, H.out, Kept.refl _ _⟩
set_option maxHeartbeats 1000000 in
theorem rpending_s (b : Nat) (s : St) (line : Int) (w : World) (h : RefS w b s) :
    Calls Tryd.prog 24 #[.pointer (some ⟨b, 0, none⟩), .int .i64 line] w (RetR (.bool (lineOf s.p line)) [] w b s) := by
  have ht := fun W => line_c line W
  unfold lineOf
  by_cases hl : 0 ≤ line ∧ line < 16
  · have hd : decide (0 ≤ line ∧ line < 16) = true := by simpa using hl
    rw [hd] at ht ⊢
    rw [Bool.true_and]
    have HT := Lib.hid ht
    obtain ⟨i, rfl⟩ := Int.eq_ofNat_of_zero_le hl.1
    rw [Int.toNat_natCast]
    have hi : i < 16 := by omega
    have c0 := RefAt.p h i hi
    have H := Lib.hid h
    generalize s.p.getLsbD i = v at *
    clear hd ht hl h
    go_enter Tryd.func24, Tryd.ntmps24
    go_wp2_with (go_at_call 37; refine (HT.out _).mono ?_; rintro e w' ⟨rfl, rfl⟩)
    go_ret
    exact ⟨rfl, H.out, Kept.refl _ _⟩
  · have hd : decide (0 ≤ line ∧ line < 16) = false := by simpa using hl
    rw [hd] at ht ⊢
    rw [Bool.false_and]
    have HT := Lib.hid ht
    have H := Lib.hid h
    clear hd ht hl h
    go_enter Tryd.func24, Tryd.ntmps24
    go_wp2_with (go_at_call 37; refine (HT.out _).mono ?_; rintro e w' ⟨rfl, rfl⟩)
    go_ret
    exact ⟨rfl, H.out, Kept.refl _ _⟩
set_option maxHeartbeats 1000000 in
theorem rmasked_s (b : Nat) (s : St) (line : Int) (w : World) (h : RefS w b s) :
    Calls Tryd.prog 26 #[.pointer (some ⟨b, 0, none⟩), .int .i64 line] w (RetR (.bool (lineOf s.m line)) [] w b s) := by
  have ht := fun W => line_c line W
  unfold lineOf
  by_cases hl : 0 ≤ line ∧ line < 16
  · have hd : decide (0 ≤ line ∧ line < 16) = true := by simpa using hl
    rw [hd] at ht ⊢
    rw [Bool.true_and]
    have HT := Lib.hid ht
    obtain ⟨i, rfl⟩ := Int.eq_ofNat_of_zero_le hl.1
    rw [Int.toNat_natCast]
    have hi : i < 16 := by omega
    have c0 := RefAt.m h i hi
    have H := Lib.hid h
    generalize s.m.getLsbD i = v at *
    clear hd ht hl h
    go_enter Tryd.func26, Tryd.ntmps26
    go_wp2_with (go_at_call 37; refine (HT.out _).mono ?_; rintro e w' ⟨rfl, rfl⟩)
    go_ret
    exact ⟨rfl, H.out, Kept.refl _ _⟩
  · have hd : decide (0 ≤ line ∧ line < 16) = false := by simpa using hl
    rw [hd] at ht ⊢
    rw [Bool.false_and]
    have HT := Lib.hid ht
    have H := Lib.hid h
    clear hd ht hl h
    go_enter Tryd.func26, Tryd.ntmps26
    go_wp2_with (go_at_call 37; refine (HT.out _).mono ?_; rintro e w' ⟨rfl, rfl⟩)
    go_ret
    exact ⟨rfl, H.out, Kept.refl _ _⟩

set_option maxHeartbeats 1000000 in
theorem rtick_s (b : Nat) (s : St) (w : World) (h : RefS w b s) :
    Calls Tryd.prog 33 #[.pointer (some ⟨b, 0, none⟩)] w (RetR (.tuple #[]) [b] w b (tickSt s)) := by
  have c := RefAt.n h
  have f := RefAt.free h 32
  have H := Lib.hid h
  have hn := s.n.isLt
  have ht : ((tickSt s).n.toNat : Int) = if (s.n.toNat : Int) + 1 = 4294967296 then 0 else (s.n.toNat : Int) + 1 := by
    show ((s.n + 1).toNat : Int) = _
    rw [BitVec.toNat_add]
    simp
    split <;> omega
  have HTk := Lib.hid ht
  clear h ht
  by_cases hm : (s.n.toNat : Int) + 1 = 4294967296
  · have e0 := HTk.out
    rw [if_pos hm] at e0
    have E := Lib.hid e0
    have h1 : (s.n.toNat : Int) = 4294967295 := by omega
    rw [h1] at c
    clear e0 hm h1
    go_enter Tryd.func33, Tryd.ntmps33
    go_wp2
    go_end0
    refine ⟨rfl, ?_, ((Kept.refl _ _).setCell (.inl (by simp)) _).setCell (.inl (by simp)) _⟩
    unfold RefS
    rw [E.out]
    exact (RefAt.setN H.out _).setN _
  · have e0 := HTk.out
    rw [if_neg hm] at e0
    have E := Lib.hid e0
    have hb : ((s.n.toNat : Int) + 1 == 4294967296) = false := by simpa using hm
    clear e0 hm
    go_enter Tryd.func33, Tryd.ntmps33
    go_wp2
    go_end0
    refine ⟨rfl, ?_, (Kept.refl _ _).setCell (.inl (by simp)) _⟩
    unfold RefS
    rw [E.out]
    exact RefAt.setN H.out _

set_option maxHeartbeats 1000000 in
theorem rnext_s (b : Nat) (s : St) (w : World) (h : RefS w b s) :
    Calls Tryd.prog 27 #[.pointer (some ⟨b, 0, none⟩)] w (RetR (nextOf s.p s.m) [] w b s) := by
  have H := Lib.hid h
  clear h
  go_enter Tryd.func27, Tryd.ntmps27
  go_wp2
  go_loop [4] (fun v4 => ∃ k : Nat, k ≤ 16 ∧ v4 = .int .i64 k ∧ Hid (∀ j, j < k → (s.p &&& ~~~s.m).getLsbD j = false)) (fun v4 => 16 - (intOf v4).toNat)
  case atStart => exact ⟨0, by omega, rfl, fun j hj => absurd hj (by omega)⟩
  case round =>
    obtain ⟨k, hk, rfl, hz⟩ := hrel
    by_cases hlt : k < 16
    · have c0 := RefAt.p H.out k hlt
      have c1 := RefAt.m H.out k hlt
      have hop : (s.p &&& ~~~s.m).getLsbD k = (s.p.getLsbD k && !s.m.getLsbD k) := by
        rw [BitVec.getLsbD_and, BitVec.getLsbD_not]; simp [hlt]
      have HO := Lib.hid hop
      clear hop
      cases hp : s.p.getLsbD k
      · rw [hp] at c0
        have HP := Lib.hid hp
        clear hp
        go_wp2
        go_round
        case rel =>
          refine ⟨k + 1, by omega, by go_num, fun j hj => ?_⟩
          by_cases e : j = k
          · subst e; rw [HO.out, HP.out]; rfl
          · exact hz.out j (by omega)
        case measure => simp [intOf]; omega
      · rw [hp] at c0
        have HP := Lib.hid hp
        clear hp
        cases hm : s.m.getLsbD k
        · rw [hm] at c1
          have HM := Lib.hid hm
          clear hm
          have hop : (s.p &&& ~~~s.m).getLsbD k = true := by rw [HO.out, HP.out, HM.out]; rfl
          have hne : s.p &&& ~~~s.m ≠ 0 := by intro e; rw [e] at hop; simp at hop
          have hl : low (s.p &&& ~~~s.m) = k := by
            obtain ⟨g1, g2, g3⟩ := low_is _ hne
            rcases Nat.lt_trichotomy (low (s.p &&& ~~~s.m)) k with h1 | h1 | h1
            · rw [hz.out _ h1] at g2; cases g2
            · exact h1
            · rw [g3 _ h1] at hop; cases hop
          have hr : nextOf s.p s.m = .tuple #[.int .i64 (k : Int), .bool true] := by rw [nextOf, if_neg hne, hl]
          rw [hr]
          clear hop hne hl hr
          go_wp2
          go_ret2
          exact ⟨rfl, H.out, Kept.refl _ _⟩
        · rw [hm] at c1
          have HM := Lib.hid hm
          clear hm
          go_wp2
          go_round
          case rel =>
            refine ⟨k + 1, by omega, by go_num, fun j hj => ?_⟩
            by_cases e : j = k
            · subst e; rw [HO.out, HP.out, HM.out]; rfl
            · exact hz.out j (by omega)
          case measure => simp [intOf]; omega
    · obtain rfl : k = 16 := by omega
      have hr : nextOf s.p s.m = .tuple #[.int .i64 0, .bool false] := if_pos (low_none _ (fun i hi => hz.out i hi))
      have HR := Lib.hid hr
      clear hr
      go_wp2
      go_ret2
      exact ⟨by rw [HR.out]; rfl, H.out, Kept.refl _ _⟩
end Go.Proofs.YtbnceohegekihaaDoor
