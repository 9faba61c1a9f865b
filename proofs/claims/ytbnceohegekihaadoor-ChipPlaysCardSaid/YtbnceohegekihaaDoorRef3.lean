/-
  Contracts of citadelref03 (the document's chip). No condition beyond the block's cells.
-/
import Derived.Test.YtbnceohegekihaaDoorChipDoes
import Derived.Test.YtbnceohegekihaaDoorChipOften
set_option linter.unusedSimpArgs false
set_option linter.unusedVariables false
namespace Go.Proofs.YtbnceohegekihaaDoor
open Go.RowKit

def refCell (p m : BitVec 16) (n : Int) (j : Nat) : Value := if j < 16 then .bool (p.getLsbD j) else if j < 32 then .bool (m.getLsbD (j - 16)) else .int .i64 n
def refCells (p m : BitVec 16) (n : Int) : Array Value := ((List.range 33).map (refCell p m n)).toArray
theorem refCells_get (p m : BitVec 16) (n : Int) (j : Nat) (h : j < 33) : (refCells p m n)[j]? = some (refCell p m n j) := by
  simp [refCells, h]
def setB (p : BitVec 16) (i : Nat) (v : Bool) : BitVec 16 := if v then p ||| 1#16 <<< i else p &&& ~~~(1#16 <<< i)
theorem one_get (i j : Nat) (hi : i < 16) (hj : j < 16) : (1#16 <<< i).getLsbD j = decide (j = i) := by
  have := chipOften.bit_get (i : Int) (by omega) (by omega) j
  rw [bit, if_pos ⟨by omega, by omega⟩, Int.toNat_natCast] at this
  exact this
theorem setB_get (p : BitVec 16) (i : Nat) (v : Bool) (hi : i < 16) (j : Nat) (hj : j < 16) : (setB p i v).getLsbD j = if j = i then v else p.getLsbD j := by
  unfold setB
  cases v
  · simp only [Bool.false_eq_true, if_false, BitVec.getLsbD_and, BitVec.getLsbD_not, one_get i j hi hj, hj, decide_true, Bool.true_and]
    by_cases h : j = i <;> simp [h]
  · simp only [if_true, BitVec.getLsbD_or, one_get i j hi hj]
    by_cases h : j = i <;> simp [h]
theorem set_p (p m : BitVec 16) (n : Int) (i : Nat) (v : Bool) (hi : i < 16) : (refCells p m n).setIfInBounds i (.bool v) = refCells (setB p i v) m n := by
  apply Array.ext_getElem?
  intro j
  rw [Array.getElem?_setIfInBounds]
  by_cases hj : j < 33
  · rw [refCells_get _ _ _ j hj, refCells_get _ _ _ j hj]
    by_cases e : i = j
    · subst e
      have h0 : (refCells p m n).size = 33 := by simp [refCells]
      rw [if_pos rfl, if_pos (by omega), refCell, if_pos hi, setB_get _ _ _ hi _ hi, if_pos rfl]
    · rw [if_neg e, refCell, refCell]
      by_cases h1 : j < 16
      · rw [if_pos h1, if_pos h1, setB_get _ _ _ hi _ h1, if_neg (Ne.symm e)]
      · rw [if_neg h1, if_neg h1]
  · have h1 : (refCells p m n).size = 33 := by simp [refCells]
    have h2 : (refCells (setB p i v) m n).size = 33 := by simp [refCells]
    have h3 : i ≠ j := by omega
    rw [if_neg h3, Array.getElem?_eq_none (by omega), Array.getElem?_eq_none (by omega)]
theorem set_m (p m : BitVec 16) (n : Int) (i : Nat) (v : Bool) (hi : i < 16) : (refCells p m n).setIfInBounds (16 + i) (.bool v) = refCells p (setB m i v) n := by
  apply Array.ext_getElem?
  intro j
  rw [Array.getElem?_setIfInBounds]
  by_cases hj : j < 33
  · rw [refCells_get _ _ _ j hj, refCells_get _ _ _ j hj]
    by_cases e : 16 + i = j
    · subst e
      have h1 : ¬ 16 + i < 16 := by omega
      have h2 : 16 + i < 32 := by omega
      have h0 : (refCells p m n).size = 33 := by simp [refCells]
      rw [if_pos rfl, if_pos (by omega), refCell, if_neg h1, if_pos h2, setB_get _ _ _ hi _ (by omega), if_pos (by omega)]
    · rw [if_neg e, refCell, refCell]
      by_cases h1 : j < 16
      · rw [if_pos h1, if_pos h1]
      · by_cases h2 : j < 32
        · have h3 : ¬ j - 16 = i := by omega
          rw [if_neg h1, if_pos h2, if_neg h1, if_pos h2, setB_get m i v hi (j - 16) (by omega), if_neg h3]
        · rw [if_neg h1, if_neg h2, if_neg h1, if_neg h2]
  · have h1 : (refCells p m n).size = 33 := by simp [refCells]
    have h2 : (refCells p (setB m i v) n).size = 33 := by simp [refCells]
    have h3 : 16 + i ≠ j := by omega
    rw [if_neg h3, Array.getElem?_eq_none (by omega), Array.getElem?_eq_none (by omega)]
theorem set_n (p m : BitVec 16) (n k : Int) : (refCells p m n).setIfInBounds 32 (.int .i64 k) = refCells p m k := by
  apply Array.ext_getElem?
  intro j
  rw [Array.getElem?_setIfInBounds]
  by_cases hj : j < 33
  · rw [refCells_get _ _ _ j hj, refCells_get _ _ _ j hj]
    by_cases e : 32 = j
    · subst e
      simp [refCells, refCell]
    · simp only [e, if_false, refCell]
      by_cases h1 : j < 16
      · simp [h1]
      · have h2 : j < 32 := by omega
        simp [h1, h2]
  · have h1 : (refCells p m n).size = 33 := by simp [refCells]
    have h2 : (refCells p m k).size = 33 := by simp [refCells]
    have h3 : 32 ≠ j := by omega
    rw [if_neg h3, Array.getElem?_eq_none (by omega), Array.getElem?_eq_none (by omega)]

def RefAt (w : World) (b : Nat) (p m : BitVec 16) (n : Int) : Prop := w.heap[b]? = some (.cells (refCells p m n) 54)
def RefS (w : World) (b : Nat) (s : St) : Prop := RefAt w b s.p s.m (s.n.toNat : Int)
theorem RefAt.p {w : World} {b : Nat} {p m : BitVec 16} {n : Int} (h : RefAt w b p m n) (i : Nat) (hi : i < 16) : w.cell? ⟨b, i, none⟩ = some (.bool (p.getLsbD i)) := by
  rw [cell_of_at h, refCells_get _ _ _ _ (by omega), refCell, if_pos hi]
theorem RefAt.m {w : World} {b : Nat} {p m : BitVec 16} {n : Int} (h : RefAt w b p m n) (i : Nat) (hi : i < 16) : w.cell? ⟨b, 16 + i, none⟩ = some (.bool (m.getLsbD i)) := by
  rw [cell_of_at h, refCells_get _ _ _ _ (by omega), refCell, if_neg (by omega), if_pos (by omega)]
  congr 3; omega
theorem RefAt.n {w : World} {b : Nat} {p m : BitVec 16} {n : Int} (h : RefAt w b p m n) : w.cell? ⟨b, 32, none⟩ = some (.int .i64 n) := by
  rw [cell_of_at h, refCells_get _ _ _ _ (by omega)]; rfl
theorem RefAt.free {w : World} {b : Nat} {p m : BitVec 16} {n : Int} (h : RefAt w b p m n) (i : Nat) : w.frozen? ⟨b, i, none⟩ = false := free_of_at h i
theorem RefAt.setP {w : World} {b : Nat} {p m : BitVec 16} {n : Int} (h : RefAt w b p m n) (i : Nat) (hi : i < 16) (v : Bool) : RefAt (w.setCell ⟨b, i, none⟩ (.bool v)) b (setB p i v) m n := by
  have := at_setCell (off := i) h (.bool v)
  rw [set_p _ _ _ _ _ hi] at this
  exact this
theorem RefAt.setM {w : World} {b : Nat} {p m : BitVec 16} {n : Int} (h : RefAt w b p m n) (i : Nat) (hi : i < 16) (v : Bool) : RefAt (w.setCell ⟨b, 16 + i, none⟩ (.bool v)) b p (setB m i v) n := by
  have := at_setCell (off := 16 + i) h (.bool v)
  rw [set_m _ _ _ _ _ hi] at this
  exact this
theorem RefAt.setN {w : World} {b : Nat} {p m : BitVec 16} {n : Int} (h : RefAt w b p m n) (k : Int) : RefAt (w.setCell ⟨b, 32, none⟩ (.int .i64 k)) b p m k := by
  have := at_setCell (off := 32) h (.int .i64 k)
  rw [set_n] at this
  exact this

def RetR (v : Value) (S : List Nat) (w : World) (b : Nat) (s : St) (e : Ending) (w' : World) : Prop := e = .returned v ∧ RefS w' b s ∧ Kept S w w'

theorem line_c (line : Int) (w : World) :
    Calls Tryd.prog 37 #[.int .i64 line] w fun e w' => e = .returned (.bool (decide (0 ≤ line ∧ line < 16))) ∧ w = w' := by
  by_cases h1 : 0 ≤ line
  · by_cases h2 : line < 16
    · go_enter Tryd.func37, Tryd.ntmps37
      go_wp2
      go_ret
      exact ⟨by simp [h1, h2], rfl⟩
    · go_enter Tryd.func37, Tryd.ntmps37
      go_wp2
      go_ret
      exact ⟨by simp [h1, h2], rfl⟩
  · go_enter Tryd.func37, Tryd.ntmps37
    go_wp2
    go_ret
    exact ⟨by simp; omega, rfl⟩

theorem setB_bit (p : BitVec 16) (i : Nat) (hi : i < 16) : setB p i true = p ||| bit i ∧ setB p i false = p &&& ~~~bit i := by
  have e : bit (i : Int) = 1#16 <<< i := by rw [bit, if_pos ⟨by omega, by omega⟩, Int.toNat_natCast]
  rw [e]
  exact ⟨rfl, rfl⟩

def onB (p : BitVec 16) (l : Int) (on : Bool) : BitVec 16 := if on then p ||| bit l else p &&& ~~~bit l
theorem onB_yes (p : BitVec 16) (i : Nat) (hi : i < 16) (on : Bool) : setB p i on = onB p i on := by
  have := setB_bit p i hi
  cases on
  · exact this.2
  · exact this.1
theorem onB_no (p : BitVec 16) (l : Int) (on : Bool) (h : ¬ (0 ≤ l ∧ l < 16)) : onB p l on = p := by
  have e2 : bit l = 0 := if_neg h
  unfold onB
  rw [e2, show (~~~(0 : BitVec 16)) = BitVec.allOnes 16 from by decide, BitVec.and_allOnes]
  cases on <;> simp

set_option maxHeartbeats 1000000 in
theorem rraise_c (b : Nat) (p m : BitVec 16) (n line : Int) (on : Bool) (w : World) (h : RefAt w b p m n) :
    Calls Tryd.prog 30 #[.pointer (some ⟨b, 0, none⟩), .int .i64 line, .bool on] w fun e w' => e = .returned (.int .i64 (errOf line)) ∧ RefAt w' b (onB p line on) m n ∧ Kept [b] w w' := by
  have ht := fun W => line_c line W
  by_cases hl : 0 ≤ line ∧ line < 16
  · have e : errOf line = 0 := if_pos hl
    rw [e]
    rw [show decide (0 ≤ line ∧ line < 16) = true from by simpa using hl] at ht
    have HT := Lib.hid ht
    obtain ⟨i, rfl⟩ := Int.eq_ofNat_of_zero_le hl.1
    have hi : i < 16 := by omega
    have c := h.p i hi
    have f := h.free i
    have H := Lib.hid h
    clear e ht hl h
    go_enter Tryd.func30, Tryd.ntmps30
    go_wp2_with (go_at_call 37; refine (HT.out _).mono ?_; rintro e w' ⟨rfl, rfl⟩)
    go_ret
    refine ⟨rfl, ?_, (Kept.refl _ _).setCell (.inl (by simp)) _⟩
    rw [← onB_yes p i hi on]
    exact H.out.setP i hi on
  · have e : errOf line = 30 := if_neg hl
    rw [e, onB_no _ _ _ hl]
    rw [show decide (0 ≤ line ∧ line < 16) = false from by simpa using hl] at ht
    have HT := Lib.hid ht
    have H := Lib.hid h
    clear e ht hl h
    go_enter Tryd.func30, Tryd.ntmps30
    go_wp2_with (go_at_call 37; refine (HT.out _).mono ?_; rintro e w' ⟨rfl, rfl⟩)
    go_ret
    exact ⟨rfl, H.out, Kept.refl _ _⟩
set_option maxHeartbeats 1000000 in
theorem rmask_c (b : Nat) (p m : BitVec 16) (n line : Int) (on : Bool) (w : World) (h : RefAt w b p m n) :
    Calls Tryd.prog 31 #[.pointer (some ⟨b, 0, none⟩), .int .i64 line, .bool on] w fun e w' => e = .returned (.int .i64 (errOf line)) ∧ RefAt w' b p (onB m line on) n ∧ Kept [b] w w' := by
  have ht := fun W => line_c line W
  by_cases hl : 0 ≤ line ∧ line < 16
  · have e : errOf line = 0 := if_pos hl
    rw [e]
    rw [show decide (0 ≤ line ∧ line < 16) = true from by simpa using hl] at ht
    have HT := Lib.hid ht
    obtain ⟨i, rfl⟩ := Int.eq_ofNat_of_zero_le hl.1
    have hi : i < 16 := by omega
    have c := h.m i hi
    have f := h.free (16 + i)
    have H := Lib.hid h
    clear e ht hl h
    go_enter Tryd.func31, Tryd.ntmps31
    go_wp2_with (go_at_call 37; refine (HT.out _).mono ?_; rintro e w' ⟨rfl, rfl⟩)
    go_ret
    refine ⟨rfl, ?_, (Kept.refl _ _).setCell (.inl (by simp)) _⟩
    rw [← onB_yes m i hi on]
    exact H.out.setM i hi on
  · have e : errOf line = 30 := if_neg hl
    rw [e, onB_no _ _ _ hl]
    rw [show decide (0 ≤ line ∧ line < 16) = false from by simpa using hl] at ht
    have HT := Lib.hid ht
    have H := Lib.hid h
    clear e ht hl h
    go_enter Tryd.func31, Tryd.ntmps31
    go_wp2_with (go_at_call 37; refine (HT.out _).mono ?_; rintro e w' ⟨rfl, rfl⟩)
    go_ret
    exact ⟨rfl, H.out, Kept.refl _ _⟩

set_option maxHeartbeats 1000000 in
theorem rack_c (b : Nat) (p m : BitVec 16) (n line : Int) (w : World) (h : RefAt w b p m n) :
    Calls Tryd.prog 32 #[.pointer (some ⟨b, 0, none⟩), .int .i64 line] w fun e w' => e = .returned (.int .i64 (errOf line)) ∧ RefAt w' b (onB p line false) (onB m line false) n ∧ Kept [b] w w' := by
  have h1 := rraise_c b p m n line false w h
  have h2 := fun W => rmask_c b (onB p line false) m n line false W
  by_cases hl : 0 ≤ line ∧ line < 16
  · have e : errOf line = 0 := if_pos hl
    rw [e] at h1 h2 ⊢
    have H1 := Lib.hid h1
    have H2 := Lib.hid h2
    clear h1 h2 h e hl
    go_enter Tryd.func32, Tryd.ntmps32
    go_wp2_with fail
    refine H1.out.mono ?_
    rintro e w1 ⟨rfl, c1, k1⟩
    go_wp2_with fail
    refine (H2.out _ c1).mono ?_
    rintro e w2 ⟨rfl, c2, k2⟩
    go_wp2
    go_ret
    exact ⟨rfl, c2, k1.trans k2⟩
  · have e : errOf line = 30 := if_neg hl
    rw [e] at h1 ⊢
    rw [onB_no _ _ _ hl] at h1 ⊢
    rw [onB_no _ _ _ hl]
    have H1 := Lib.hid h1
    clear h1 h2 h e hl
    go_enter Tryd.func32, Tryd.ntmps32
    go_wp2_with fail
    refine H1.out.mono ?_
    rintro e w1 ⟨rfl, c1, k1⟩
    go_wp2
    go_ret
    exact ⟨rfl, c1, k1⟩
end Go.Proofs.YtbnceohegekihaaDoor
