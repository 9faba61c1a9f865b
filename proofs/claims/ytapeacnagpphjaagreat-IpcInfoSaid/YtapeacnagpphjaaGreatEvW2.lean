/-
  Words in symbols: what masks, shifts and joins of words come to.
-/
import Derived.Test.YtapeacnagpphjaaGreatEvHs
set_option linter.unusedSimpArgs false
set_option linter.unusedVariables false
noncomputable section
namespace Go.Ev
open Go
theorem arS_and (x y : Nat) (hx : x < 18446744073709551616) (hy : y < 18446744073709551616) : arS .and .u64 (x : Int) (y : Int) = ((Nat.land x y : Nat) : Int) := by
  have h1 : Nat.blt x (topOf .u64) = true := by simp [topOf]; omega
  have h2 : Nat.blt y (topOf .u64) = true := by simp [topOf]; omega
  show bitF .u64 Nat.land (fun a b => a &&& b) (.ofNat x) (.ofNat y) = _
  show bc (Nat.blt x (topOf .u64)) (bc (Nat.blt y (topOf .u64)) (Int.ofNat (Nat.land x y)) _) _ = _
  rw [h1, h2]; rfl
theorem arS_or (x y : Nat) (hx : x < 18446744073709551616) (hy : y < 18446744073709551616) : arS .or .u64 (x : Int) (y : Int) = ((Nat.lor x y : Nat) : Int) := by
  have h1 : Nat.blt x (topOf .u64) = true := by simp [topOf]; omega
  have h2 : Nat.blt y (topOf .u64) = true := by simp [topOf]; omega
  show bitF .u64 Nat.lor (fun a b => a ||| b) (.ofNat x) (.ofNat y) = _
  show bc (Nat.blt x (topOf .u64)) (bc (Nat.blt y (topOf .u64)) (Int.ofNat (Nat.lor x y)) _) _ = _
  rw [h1, h2]; rfl
theorem and_mask {x m : Int} (k : Nat) (hm : m = 2 ^ k - 1) (hk : k < 64) (h0 : 0 ≤ x) (h1 : x < 18446744073709551616) : arS .and .u64 x m = x % 2 ^ k := by
  obtain ⟨n, rfl⟩ := Int.eq_ofNat_of_zero_le h0
  have hp : 0 < 2 ^ k := Nat.two_pow_pos k
  have hlt : (2 : Nat) ^ k < 18446744073709551616 := by
    have : (2 : Nat) ^ k < 2 ^ 64 := Nat.pow_lt_pow_right (by omega) hk
    simpa using this
  have e : m = ((2 ^ k - 1 : Nat) : Int) := by
    rw [hm, Int.natCast_sub (by omega)]; simp
  rw [e, arS_and n _ (by omega) (by omega)]
  have : Nat.land n (2 ^ k - 1) = n % 2 ^ k := Nat.and_two_pow_sub_one_eq_mod n k
  rw [this]
  simp
theorem shr_val {x : Int} (n : Nat) (hn : n ≤ 64) (h0 : 0 ≤ x) : arS .shr .u64 x (n : Int) = x / 2 ^ n := by
  show (shI .shr .u64 x n).getD 0 = _
  have : min ((n : Int)).toNat (IntKind.bits .u64) = n := by
    show min n 64 = n
    omega
  simp only [shI, this, Option.getD_some]
  rw [Int.fdiv_eq_ediv_of_nonneg _ (by have : (0 : Int) < 2 ^ n := Int.pow_pos (by omega); omega)]
theorem shl_val {x : Int} (n : Nat) (hn : n ≤ 64) (h0 : 0 ≤ x) (h1 : x * 2 ^ n < 18446744073709551616) : arS .shl .u64 x (n : Int) = x * 2 ^ n := by
  show (shI .shl .u64 x n).getD 0 = _
  have : min ((n : Int)).toNat (IntKind.bits .u64) = n := by
    show min n 64 = n
    omega
  simp only [shI, this, Option.getD_some, wrapF_eq]
  have : 0 ≤ x * 2 ^ n := Int.mul_nonneg h0 (by have : (0 : Int) < 2 ^ n := Int.pow_pos (by omega); omega)
  rw [IntKind.wrap_u64]
  exact Int.emod_eq_of_lt this h1
theorem or_add {x y : Int} (k : Nat) (m : Int) (hx : x = m * 2 ^ k) (hm : 0 ≤ m) (h0 : 0 ≤ y) (h1 : y < 2 ^ k) (hb : x < 18446744073709551616) (hk : k ≤ 64) : arS .or .u64 x y = x + y := by
  obtain ⟨a, rfl⟩ := Int.eq_ofNat_of_zero_le hm
  obtain ⟨b, rfl⟩ := Int.eq_ofNat_of_zero_le h0
  have hxn : x = ((a * 2 ^ k : Nat) : Int) := by rw [hx]; simp
  have hbk : b < 2 ^ k := by
    have : ((2 ^ k : Nat) : Int) = 2 ^ k := by simp
    omega
  have hle : (2 : Nat) ^ k ≤ 18446744073709551616 := by
    have : (2 : Nat) ^ k ≤ 2 ^ 64 := Nat.pow_le_pow_right (by omega) hk
    simpa using this
  rw [hxn, arS_or _ _ (by omega) (by omega)]
  have : Nat.lor (a * 2 ^ k) b = a * 2 ^ k + b := by
    have := Nat.shiftLeft_add_eq_or_of_lt hbk a
    rw [Nat.shiftLeft_eq] at this
    exact this.symm
  rw [this]
  simp
end Go.Ev
end
