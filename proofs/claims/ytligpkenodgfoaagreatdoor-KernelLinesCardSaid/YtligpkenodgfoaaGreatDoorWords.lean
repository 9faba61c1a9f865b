/-
  The model's arithmetic of unsigned numbers, said of bit vectors. No condition.
-/
import Derived.WalkKit
import Derived.Laws.BitsAllLaws
set_option linter.unusedSimpArgs false
set_option linter.unusedVariables false
namespace Go.Proofs.YtligpkenodgfoaaGreatDoor
open Go.RowKit

theorem ofInt_nat {n : Nat} (a : BitVec n) : BitVec.ofInt n (a.toNat : Int) = a := by
  rw [BitVec.ofInt_natCast]; simp

theorem wrap64_nat (a : BitVec 64) : IntKind.u64.wrap (a.toNat : Int) = (a.toNat : Int) := by rw [IntKind.wrap_u64]; have := a.isLt; omega
theorem wrap32_nat (a : BitVec 32) : IntKind.u32.wrap (a.toNat : Int) = (a.toNat : Int) := by rw [IntKind.wrap_u32']; have := a.isLt; omega
theorem wrap16_nat (a : BitVec 16) : IntKind.u16.wrap (a.toNat : Int) = (a.toNat : Int) := by rw [IntKind.wrap_u16]; have := a.isLt; omega

theorem or64 (a b : BitVec 64) : bits .or .u64 (a.toNat : Int) (b.toNat : Int) = ((a ||| b).toNat : Int) := by
  show IntKind.u64.wrap ((BitVec.ofInt 64 (a.toNat : Int) ||| BitVec.ofInt 64 (b.toNat : Int)).toNat : Int) = _
  rw [ofInt_nat, ofInt_nat, wrap64_nat]
theorem and64 (a b : BitVec 64) : bits .and .u64 (a.toNat : Int) (b.toNat : Int) = ((a &&& b).toNat : Int) := by
  show IntKind.u64.wrap ((BitVec.ofInt 64 (a.toNat : Int) &&& BitVec.ofInt 64 (b.toNat : Int)).toNat : Int) = _
  rw [ofInt_nat, ofInt_nat, wrap64_nat]
theorem andNot64 (a b : BitVec 64) : bits .andNot .u64 (a.toNat : Int) (b.toNat : Int) = ((a &&& ~~~b).toNat : Int) := by
  show IntKind.u64.wrap ((BitVec.ofInt 64 (a.toNat : Int) &&& ~~~BitVec.ofInt 64 (b.toNat : Int)).toNat : Int) = _
  rw [ofInt_nat, ofInt_nat, wrap64_nat]
theorem or16 (a b : BitVec 16) : bits .or .u16 (a.toNat : Int) (b.toNat : Int) = ((a ||| b).toNat : Int) := by
  show IntKind.u16.wrap ((BitVec.ofInt 16 (a.toNat : Int) ||| BitVec.ofInt 16 (b.toNat : Int)).toNat : Int) = _
  rw [ofInt_nat, ofInt_nat, wrap16_nat]
theorem and16 (a b : BitVec 16) : bits .and .u16 (a.toNat : Int) (b.toNat : Int) = ((a &&& b).toNat : Int) := by
  show IntKind.u16.wrap ((BitVec.ofInt 16 (a.toNat : Int) &&& BitVec.ofInt 16 (b.toNat : Int)).toNat : Int) = _
  rw [ofInt_nat, ofInt_nat, wrap16_nat]
theorem andNot16 (a b : BitVec 16) : bits .andNot .u16 (a.toNat : Int) (b.toNat : Int) = ((a &&& ~~~b).toNat : Int) := by
  show IntKind.u16.wrap ((BitVec.ofInt 16 (a.toNat : Int) &&& ~~~BitVec.ofInt 16 (b.toNat : Int)).toNat : Int) = _
  rw [ofInt_nat, ofInt_nat, wrap16_nat]

theorem shl64 (a : BitVec 64) (k : Nat) : IntKind.u64.wrap ((a.toNat : Int) * 2 ^ k) = ((a <<< k).toNat : Int) := by
  rw [IntKind.wrap_u64, BitVec.toNat_shiftLeft, Nat.shiftLeft_eq]
  have : ((a.toNat : Int) * 2 ^ k) = ((a.toNat * 2 ^ k : Nat) : Int) := by push_cast; rfl
  rw [this]; omega
theorem shl16 (a : BitVec 16) (k : Nat) : IntKind.u16.wrap ((a.toNat : Int) * 2 ^ k) = ((a <<< k).toNat : Int) := by
  rw [IntKind.wrap_u16, BitVec.toNat_shiftLeft, Nat.shiftLeft_eq]
  have : ((a.toNat : Int) * 2 ^ k) = ((a.toNat * 2 ^ k : Nat) : Int) := by push_cast; rfl
  rw [this]; omega
theorem shr64 (a : BitVec 64) (k : Nat) : ((a.toNat : Int) / 2 ^ k) = ((a >>> k).toNat : Int) := by
  rw [BitVec.toNat_ushiftRight, Nat.shiftRight_eq_div_pow]; push_cast; rfl
theorem shr16 (a : BitVec 16) (k : Nat) : ((a.toNat : Int) / 2 ^ k) = ((a >>> k).toNat : Int) := by
  rw [BitVec.toNat_ushiftRight, Nat.shiftRight_eq_div_pow]; push_cast; rfl
theorem to64_32 (n : BitVec 32) : ((n.toNat : Int)) = ((n.setWidth 64).toNat : Int) := by
  rw [BitVec.toNat_setWidth]; have := n.isLt; omega
theorem to64_16 (n : BitVec 16) : ((n.toNat : Int)) = ((n.setWidth 64).toNat : Int) := by
  rw [BitVec.toNat_setWidth]; have := n.isLt; omega
theorem to32_64 (n : BitVec 64) : IntKind.u32.wrap (n.toNat : Int) = ((n.setWidth 32).toNat : Int) := by
  rw [BitVec.toNat_setWidth, IntKind.wrap_u32']; omega
theorem to16_64 (n : BitVec 64) : IntKind.u16.wrap (n.toNat : Int) = ((n.setWidth 16).toNat : Int) := by
  rw [BitVec.toNat_setWidth, IntKind.wrap_u16]; omega

theorem toNat_inj {n : Nat} (a b : BitVec n) : ((a.toNat : Int) == (b.toNat : Int)) = (a == b) := by
  rw [Bool.eq_iff_iff]; simp [BitVec.toNat_eq]; omega
theorem shl64_32 (a : BitVec 64) : IntKind.u64.wrap ((a.toNat : Int) * 4294967296) = ((a <<< 32).toNat : Int) := by simpa using shl64 a 32
theorem shl64_16 (a : BitVec 64) : IntKind.u64.wrap ((a.toNat : Int) * 65536) = ((a <<< 16).toNat : Int) := by simpa using shl64 a 16
theorem shr64_32 (a : BitVec 64) : (a.toNat : Int) / 4294967296 = ((a >>> 32).toNat : Int) := by simpa using shr64 a 32
theorem shr64_16 (a : BitVec 64) : (a.toNat : Int) / 65536 = ((a >>> 16).toNat : Int) := by simpa using shr64 a 16
end Go.Proofs.YtligpkenodgfoaaGreatDoor
