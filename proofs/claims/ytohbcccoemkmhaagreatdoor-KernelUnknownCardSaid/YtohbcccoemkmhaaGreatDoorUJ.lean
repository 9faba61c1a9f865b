/-
  KernelUnknown: the truths of its cases hold.
-/
import Derived.Test.YtohbcccoemkmhaaGreatDoorMH
import Derived.Test.YtohbcccoemkmhaaGreatDoorE4
set_option linter.unusedSimpArgs false
set_option linter.unusedVariables false
set_option maxRecDepth 100000
noncomputable section
namespace Go.Ev.X
open Go Go.Ev
variable {E : Env}
theorem rrU_ok {p q : Int} (h : p ≤ E.i 0 ∧ E.i 0 ≤ q) : ∀ i a b, (i, a, b) ∈ [((0 : Nat), p, q)] → a ≤ E.i i ∧ E.i i ≤ b := by
  intro i a b hm
  rcases List.mem_cons.1 hm with e | e
  · cases e; exact h
  · cases e
theorem land_hi (a : Nat) (h : a < 4294967296) : Nat.land (a * 4294967296) 18446744069414584320 = a * 4294967296 := by
  have h1 : a * 4294967296 = a <<< 32 := by rw [Nat.shiftLeft_eq]
  have h2 : (18446744069414584320 : Nat) = 4294967295 <<< 32 := by rw [Nat.shiftLeft_eq]
  rw [h1, h2]
  have h3 := (Nat.shiftLeft_and_distrib (a := a) (b := 4294967295) (i := 32)).symm
  refine Eq.trans h3 ?_
  have h4 : a &&& 4294967295 = a := by
    rw [show (4294967295 : Nat) = 2 ^ 32 - 1 from rfl, Nat.and_two_pow_sub_one_eq_mod]
    exact Nat.mod_eq_of_lt h
  rw [h4]
theorem arS_andNot (x y : Nat) (hx : x < 18446744073709551616) (hy : y < 18446744073709551616) : arS .andNot .u64 (x : Int) (y : Int) = ((Nat.xor x (Nat.land x y) : Nat) : Int) := by
  have h1 : Nat.blt x (topOf .u64) = true := by simp [topOf]; omega
  have h2 : Nat.blt y (topOf .u64) = true := by simp [topOf]; omega
  show bitF .u64 (fun a b => Nat.xor a (Nat.land a b)) (fun a b => a &&& ~~~b) (.ofNat x) (.ofNat y) = _
  show bc (Nat.blt x (topOf .u64)) (bc (Nat.blt y (topOf .u64)) (Int.ofNat (Nat.xor x (Nat.land x y))) _) _ = _
  rw [h1, h2]; rfl
section
variable {e : SE} {x : Int} (hx : e.den E = x) (h0 : 0 ≤ x) (h1 : x < 4294967296)
include hx h0 h1
theorem cv_u : SE.den E (.cv .u64 e) = x := by
  show IntKind.wrap .u64 (e.den E) = x
  rw [hx, IntKind.wrap_u64]; omega
theorem sh_u : SE.den E (.op .shl .u64 (.cv .u64 e) (.lit 32)) = x * 4294967296 := by
  show arS .shl .u64 (SE.den E (.cv .u64 e)) ((32 : Nat) : Int) = _
  rw [cv_u hx h0 h1, shl_val 32 (by omega) h0 (by omega)]
  rfl
theorem wo_u : SE.den E (woU e) = x * 4294967296 := by
  show arS .or .u64 0 (SE.den E (.op .shl .u64 (.cv .u64 e) (.lit 32))) = _
  rw [sh_u hx h0 h1, or_add 64 0 (by simp) (by omega) (by omega) (by omega) (by omega) (by omega)]
  omega
theorem hi_u : arS .and .u64 (x * 4294967296) 18446744069414584320 = x * 4294967296 := by
  obtain ⟨n, rfl⟩ := Int.eq_ofNat_of_zero_le h0
  have e1 : (n : Int) * 4294967296 = ((n * 4294967296 : Nat) : Int) := by simp
  rw [e1]
  refine (arS_and (n * 4294967296) 18446744069414584320 (by omega) (by omega)).trans ?_
  rw [land_hi n (by omega)]
theorem un_u : SE.den E (unU e) = x := by
  show IntKind.wrap .i64 (arS .shr .u64 (arS .and .u64 (SE.den E (woU e)) 18446744069414584320) ((32 : Nat) : Int)) = x
  rw [wo_u hx h0 h1, hi_u hx h0 h1, shr_val 32 (by omega) (by omega), IntKind.wrap_i64]
  have : x * 4294967296 / 2 ^ 32 = x := by omega
  rw [this]; omega
theorem f_lss : SB.den E (.cmp .lss e (.lit 0)) = false := by
  show iLt (e.den E) 0 = false
  rw [hx, iLt_eq]
  exact decide_eq_false (by omega)
theorem f_neq : SB.den E (.cmp .neq (.op .shr .u64 (.op .shl .u64 (.cv .u64 e) (.lit 32)) (.lit 32)) (.cv .u64 e)) = false := by
  have a : SE.den E (.op .shr .u64 (.op .shl .u64 (.cv .u64 e) (.lit 32)) (.lit 32)) = x := by
    show arS .shr .u64 (SE.den E (.op .shl .u64 (.cv .u64 e) (.lit 32))) ((32 : Nat) : Int) = x
    rw [sh_u hx h0 h1, shr_val 32 (by omega) (by omega)]
    omega
  show (!iEq (SE.den E (.op .shr .u64 (.op .shl .u64 (.cv .u64 e) (.lit 32)) (.lit 32))) (SE.den E (.cv .u64 e))) = false
  rw [a, cv_u hx h0 h1, iEq_eq]
  simp
theorem f_andNot : SB.den E (.cmp .eql (.op .andNot .u64 (.op .shl .u64 (.cv .u64 e) (.lit 32)) (.lit 18446744069414584320)) (.lit 0)) = true := by
  show iEq (arS .andNot .u64 (SE.den E (.op .shl .u64 (.cv .u64 e) (.lit 32))) 18446744069414584320) 0 = true
  rw [sh_u hx h0 h1]
  obtain ⟨n, rfl⟩ := Int.eq_ofNat_of_zero_le h0
  have e1 : (n : Int) * 4294967296 = ((n * 4294967296 : Nat) : Int) := by simp
  rw [e1]
  rw [show (18446744069414584320 : Int) = ((18446744069414584320 : Nat) : Int) from rfl, arS_andNot (n * 4294967296) 18446744069414584320 (by omega) (by omega), land_hi n (by omega)]
  have : Nat.xor (n * 4294967296) (n * 4294967296) = 0 := Nat.xor_self _
  rw [this]; rfl
theorem f_and : SB.den E (.cmp .eql (.op .and .u64 (woU e) (.lit 4294967295)) (.lit 0)) = true := by
  show iEq (arS .and .u64 (SE.den E (woU e)) 4294967295) 0 = true
  rw [wo_u hx h0 h1, and_mask 32 (by omega) (by omega) (by omega) (by omega), iEq_eq]
  exact decide_eq_true (by omega)
theorem f_shr : SB.den E (.cmp .eql (.op .shr .u64 (woU e) (.lit 64)) (.lit 0)) = true := by
  show iEq (arS .shr .u64 (SE.den E (woU e)) ((64 : Nat) : Int)) 0 = true
  rw [wo_u hx h0 h1, shr_val 64 (by omega) (by omega), iEq_eq]
  exact decide_eq_true (by omega)
end
theorem be_u : SE.den E beU = E.i 0 % 18446744073709551616 % 4294967296 := by
  show IntKind.wrap .i64 (arS .and .u64 (IntKind.wrap .u64 (E.i 0)) 4294967295) = _
  rw [IntKind.wrap_u64, and_mask 32 (by omega) (by omega) (by omega) (by omega), IntKind.wrap_i64]
  omega
theorem f_last : SB.den E (.cmp .eql (unU (unU beU)) (.cv .i64 (.op .rem .u64 (.cv .u64 (.v 0)) (.lit 4294967296)))) = true := by
  have a := un_u (un_u (be_u (E := E)) (by omega) (by omega)) (by omega) (by omega)
  have b : SE.den E (.cv .i64 (.op .rem .u64 (.cv .u64 (.v 0)) (.lit 4294967296))) = E.i 0 % 18446744073709551616 % 4294967296 := by
    show IntKind.wrap .i64 (Int.tmod (IntKind.wrap .u64 (E.i 0)) 4294967296) = _
    rw [IntKind.wrap_u64, Int.tmod_eq_emod_of_nonneg (by omega), IntKind.wrap_i64]
    omega
  show iEq (SE.den E (unU (unU beU))) (SE.den E (.cv .i64 (.op .rem .u64 (.cv .u64 (.v 0)) (.lit 4294967296)))) = true
  rw [a, b, iEq_eq]; simp
theorem f_eql {k : Int} (h : E.i 0 ≠ k) : SB.den E (.cmp .eql (.v 0) (.lit k)) = false := by
  show iEq (E.i 0) k = false
  rw [iEq_eq]; exact decide_eq_false h
theorem faU {r : List (Nat × Int × Int)} (h : E.i 0 < 1 ∨ 8 < E.i 0) (hr : ∀ i a b, (i, a, b) ∈ r → a ≤ E.i i ∧ E.i i ≤ b) : FaOk E ⟨flU, r⟩ := by
  refine ⟨fun c b hm => ?_, hr⟩
  have b0 := be_u (E := E)
  have p0 : 0 ≤ E.i 0 % 18446744073709551616 % 4294967296 := by omega
  have p1 : E.i 0 % 18446744073709551616 % 4294967296 < 4294967296 := by omega
  have u0 := un_u b0 p0 p1
  have all : ∀ x ∈ flU, SB.den E x.1 = x.2 := by
    unfold flU
    simp only [List.mem_cons, List.not_mem_nil, or_false, forall_eq_or_imp, forall_eq]
    exact ⟨f_lss b0 p0 p1, f_neq b0 p0 p1, f_andNot b0 p0 p1, f_and b0 p0 p1, f_shr b0 p0 p1, f_lss u0 p0 p1, f_neq u0 p0 p1, f_andNot u0 p0 p1, f_and u0 p0 p1, f_shr u0 p0 p1, f_last,
      f_eql (by omega), f_eql (by omega), f_eql (by omega), f_eql (by omega), f_eql (by omega), f_eql (by omega), f_eql (by omega), f_eql (by omega)⟩
  exact all (c, b) hm
end Go.Ev.X
end
