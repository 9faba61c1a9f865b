/-
  The lowest bit of a word. Condition: the table of math/bits holds what its text lays.
-/
import Derived.Test.YtligpkenodgfoaaGreatDoorHcA
import Derived.Test.YtligpkenodgfoaaGreatDoorLow
set_option linter.unusedSimpArgs false
set_option linter.unusedVariables false
namespace Go.Proofs.YtligpkenodgfoaaGreatDoor
open Go.RowKit

def tab : List Int := [0, 1, 28, 2, 29, 14, 24, 3, 30, 22, 20, 15, 25, 17, 4, 8, 31, 27, 13, 23, 21, 19, 16, 7, 26, 12, 18, 6, 11, 5, 10, 9]
/-- the table of math/bits (the variable of block 0) -/
def Tab (w : World) : Prop := ∀ i, i < 32 → w.cell? ⟨0, i, none⟩ = some (.int .u8 (tab.getD i 0))
theorem Tab.size {w : World} (h : Tab w) : 0 < w.heap.size := by
  have := h 0 (by decide)
  rcases Nat.lt_or_ge 0 w.heap.size with h1 | h1
  · exact h1
  · simp [World.cell?, Array.getElem?_eq_none h1] at this
theorem Tab.kept {S : List Nat} {w w' : World} (h : Tab w) (hk : Kept S w w') (hs : 0 ∉ S) : Tab w' := by
  intro i hi
  rw [← h i hi]
  exact World.cell?_of_block (w := w) (hk.block _ h.size hs)

set_option maxHeartbeats 4000000 in
theorem tz_at (k : Nat) (hk : k < 16) (x : Int) (w : World) (hx : (x == 0) = false) (hd : bits .and .u16 x (IntKind.u16.wrap (-x)) = 2 ^ k) (hT : Tab w) :
    Calls Tryz.prog 180 #[.int .u16 x] w fun e w' => e = .returned (.int .i64 k) ∧ w = w' := by
  have h1 := hT (2 ^ k * 125613361 % 4294967296 / 134217728)
  clear hT
  have hc : k = 0 ∨ k = 1 ∨ k = 2 ∨ k = 3 ∨ k = 4 ∨ k = 5 ∨ k = 6 ∨ k = 7 ∨ k = 8 ∨ k = 9 ∨ k = 10 ∨ k = 11 ∨ k = 12 ∨ k = 13 ∨ k = 14 ∨ k = 15 := by omega
  rcases hc with rfl | rfl | rfl | rfl | rfl | rfl | rfl | rfl | rfl | rfl | rfl | rfl | rfl | rfl | rfl | rfl
  all_goals
    have h2 := h1 (by decide)
    simp [tab] at h2 hd
    clear h1
    go_enter Tryz.func180, Tryz.ntmps180
    go_wp2
    go_ret
    exact ⟨rfl, rfl⟩

theorem tz_c (x : BitVec 16) (h : x ≠ 0) (w : World) (hT : Tab w) :
    Calls Tryz.prog 180 #[.int .u16 (x.toNat : Int)] w fun e w' => e = .returned (.int .i64 (low x : Int)) ∧ w = w' := by
  have h0 : x.toNat ≠ 0 := by intro h1; apply h; apply BitVec.eq_of_toNat_eq; simpa using h1
  refine tz_at (low x) (low_is x h).1 _ w ?_ ?_ hT
  · simpa using h0
  · have e : IntKind.u16.wrap (-(x.toNat : Int)) = ((-x).toNat : Int) := by
      rw [IntKind.wrap_u16, BitVec.toNat_neg]; have := x.isLt; omega
    rw [e, and16, low_pow x h]
    have hl := (low_is x h).1
    have : 2 ^ low x < 2 ^ 16 := Nat.pow_lt_pow_right (by decide) hl
    rw [BitVec.toNat_shiftLeft, Nat.shiftLeft_eq, show (1#16).toNat = 1 from rfl, Nat.one_mul, Nat.mod_eq_of_lt this]
    push_cast
    rfl

end Go.Proofs.YtligpkenodgfoaaGreatDoor
