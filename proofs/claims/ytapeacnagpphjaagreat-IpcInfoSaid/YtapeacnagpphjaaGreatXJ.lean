/-
  IpcInfo: the truths hold, each in its case.
-/
import Derived.Test.YtapeacnagpphjaaGreatXI
set_option linter.unusedSimpArgs false
set_option linter.unusedVariables false
set_option maxRecDepth 100000
noncomputable section
namespace Go.Ev.X
open Go Go.Ev
variable {E : Env}
def clI (x m : Int) : Int := if x < 0 then 0 else if m < x then m else x
theorem arAdd (k : IntKind) (x y : Int) : arS .add k x y = k.wrap (x + y) := by simp [arS, arI, wrapF_eq]
theorem arMul (k : IntKind) (x y : Int) : arS .mul k x y = k.wrap (x * y) := by simp [arS, arI, wrapF_eq]
theorem arRem (k : IntKind) (x y : Int) : arS .rem k x y = x.tmod y := by simp [arS, arI, dvI]
theorem arQuo (k : IntKind) (x y : Int) : arS .quo k x y = k.wrap (x.tdiv y) := by simp [arS, arI, dvI, wrapF_eq]
theorem tmod_pos {x m : Int} (h : 0 ≤ x) : x.tmod m = x % m := Int.tmod_eq_emod_of_nonneg h
theorem tdiv_pos {x m : Int} (h : 0 ≤ x) : x.tdiv m = x / m := Int.tdiv_eq_ediv_of_nonneg h
structure BdI (E : Env) : Prop where
  b0 : -9223372036854775808 ≤ E.i 0 ∧ E.i 0 ≤ 9223372036854775807
  b1 : -9223372036854775808 ≤ E.i 1 ∧ E.i 1 ≤ 9223372036854775807
  b2 : -9223372036854775808 ≤ E.i 2 ∧ E.i 2 ≤ 9223372036854775807
  b3 : 0 ≤ E.i 3 ∧ E.i 3 ≤ 18446744073709551615
def valA (E : Env) : Int := (if E.i 0 < 0 then 0 else E.i 0) % 1099511627776 * 256 + clI (E.i 1) 1 * 16 + clI (E.i 2) 4
theorem clI_eq (x m : Int) (hm : 0 ≤ m) : (if (0 : Int) < (if m < x then m else x) then (if m < x then m else x) else 0) = clI x m := by
  unfold clI; split <;> split <;> (try split) <;> omega
theorem clI_bd (x m : Int) (hm : 0 ≤ m) : 0 ≤ clI x m ∧ clI x m ≤ m := by unfold clI; split <;> (try split) <;> omega
theorem denA (h : BdI E) : seA.den E = valA E := by
  obtain ⟨b0, b1, b2, b3⟩ := h
  have c1 := clI_bd (E.i 1) 1 (by omega)
  have c2 := clI_bd (E.i 2) 4 (by omega)
  have hml : (if E.i 0 < 0 then (0 : Int) else E.i 0) = if E.i 0 < 0 then 0 else E.i 0 := rfl
  obtain ⟨ml, hm⟩ : ∃ ml, (if E.i 0 < 0 then (0 : Int) else E.i 0) = ml := ⟨_, rfl⟩
  have hmb : 0 ≤ ml ∧ ml ≤ 9223372036854775807 := by rw [← hm]; split <;> omega
  have e1 : SE.den E (.cv .u64 (.mm true (.v 0) (.lit 0))) = ml := by
    show IntKind.u64.wrap (if E.i 0 < 0 then 0 else E.i 0) = ml
    rw [hm, IntKind.wrap_u64]; omega
  have e2 : SE.den E (.op .and .u64 (.cv .u64 (.mm true (.v 0) (.lit 0))) (.lit 1099511627775)) = ml % 1099511627776 := by
    show arS .and .u64 (SE.den E (.cv .u64 (.mm true (.v 0) (.lit 0)))) 1099511627775 = _
    rw [e1, and_mask 40 (by decide) (by omega) (by omega) (by omega)]; rfl
  have e3 : SE.den E (.op .shl .u64 (.op .and .u64 (.cv .u64 (.mm true (.v 0) (.lit 0))) (.lit 1099511627775)) (.lit 8)) = ml % 1099511627776 * 256 := by
    show arS .shl .u64 (SE.den E (.op .and .u64 (.cv .u64 (.mm true (.v 0) (.lit 0))) (.lit 1099511627775))) ((8 : Nat) : Int) = _
    rw [e2, shl_val 8 (by omega) (by omega) (by simp only [show (2 : Int) ^ 8 = 256 from rfl]; omega)]; rfl
  have e4 : SE.den E (.cv .u64 (.mm true (.lit 0) (.mm false (.v 1) (.lit 1)))) = clI (E.i 1) 1 := by
    show IntKind.u64.wrap (if (0 : Int) < (if 1 < E.i 1 then 1 else E.i 1) then (if 1 < E.i 1 then 1 else E.i 1) else 0) = _
    rw [clI_eq _ _ (by omega), IntKind.wrap_u64]; omega
  have e5 : SE.den E (.op .shl .u64 (.cv .u64 (.mm true (.lit 0) (.mm false (.v 1) (.lit 1)))) (.lit 4)) = clI (E.i 1) 1 * 16 := by
    show arS .shl .u64 (SE.den E (.cv .u64 (.mm true (.lit 0) (.mm false (.v 1) (.lit 1))))) ((4 : Nat) : Int) = _
    rw [e4, shl_val 4 (by omega) (by omega) (by simp only [show (2 : Int) ^ 4 = 16 from rfl]; omega)]; rfl
  have e6 : SE.den E (.cv .u64 (.mm true (.lit 0) (.mm false (.v 2) (.lit 4)))) = clI (E.i 2) 4 := by
    show IntKind.u64.wrap (if (0 : Int) < (if 4 < E.i 2 then 4 else E.i 2) then (if 4 < E.i 2 then 4 else E.i 2) else 0) = _
    rw [clI_eq _ _ (by omega), IntKind.wrap_u64]; omega
  show arS .or .u64 (arS .or .u64 (SE.den E (.op .shl .u64 (.op .and .u64 (.cv .u64 (.mm true (.v 0) (.lit 0))) (.lit 1099511627775)) (.lit 8))) (SE.den E (.op .shl .u64 (.cv .u64 (.mm true (.lit 0) (.mm false (.v 1) (.lit 1)))) (.lit 4)))) (SE.den E (.cv .u64 (.mm true (.lit 0) (.mm false (.v 2) (.lit 4))))) = valA E
  rw [e3, e5, e6, or_add (x := ml % 1099511627776 * 256) (y := clI (E.i 1) 1 * 16) 8 (ml % 1099511627776) (by simp only [show (2 : Int) ^ 8 = 256 from rfl]) (by omega) (by omega) (by simp only [show (2 : Int) ^ 8 = 256 from rfl]; omega) (by omega) (by omega),
    or_add (x := ml % 1099511627776 * 256 + clI (E.i 1) 1 * 16) (y := clI (E.i 2) 4) 4 (ml % 1099511627776 * 16 + clI (E.i 1) 1) (by simp only [show (2 : Int) ^ 4 = 16 from rfl]; omega) (by omega) (by omega) (by simp only [show (2 : Int) ^ 4 = 16 from rfl]; omega) (by omega) (by omega)]
  unfold valA
  rw [hm]
theorem valA_bd (h : BdI E) : 0 ≤ valA E ∧ valA E < 281474976710656 := by
  obtain ⟨b0, b1, b2, b3⟩ := h
  have c1 := clI_bd (E.i 1) 1 (by omega)
  have c2 := clI_bd (E.i 2) 4 (by omega)
  unfold valA
  split <;> omega
/-- a mask of 4 bits, of 40 bits of what is shifted -/
theorem den_and15 {e : SE} {x : Int} (he : e.den E = x) (h0 : 0 ≤ x) (h1 : x < 18446744073709551616) : SE.den E (.op .and .u64 e (.lit 15)) = x % 16 := by
  show arS .and .u64 (e.den E) 15 = _
  rw [he, and_mask 4 (by decide) (by omega) h0 h1]; rfl
theorem den_and40 {e : SE} {x : Int} (he : e.den E = x) (h0 : 0 ≤ x) (h1 : x < 18446744073709551616) : SE.den E (.op .and .u64 e (.lit 1099511627775)) = x % 1099511627776 := by
  show arS .and .u64 (e.den E) 1099511627775 = _
  rw [he, and_mask 40 (by decide) (by omega) h0 h1]; rfl
theorem den_shr4 {e : SE} {x : Int} (he : e.den E = x) (h0 : 0 ≤ x) : SE.den E (.op .shr .u64 e (.lit 4)) = x / 16 := by
  show arS .shr .u64 (e.den E) ((4 : Nat) : Int) = _
  rw [he, shr_val 4 (by omega) h0]; rfl
theorem den_shr8 {e : SE} {x : Int} (he : e.den E = x) (h0 : 0 ≤ x) : SE.den E (.op .shr .u64 e (.lit 8)) = x / 256 := by
  show arS .shr .u64 (e.den E) ((8 : Nat) : Int) = _
  rw [he, shr_val 8 (by omega) h0]; rfl
theorem den_cvI {e : SE} {x : Int} (he : e.den E = x) (h0 : 0 ≤ x) (h1 : x ≤ 9223372036854775807) : SE.den E (.cv .i64 e) = x := by
  show IntKind.i64.wrap (e.den E) = x
  rw [he, IntKind.wrap_i64]; omega
theorem den_within {e : SE} {x m : Int} (he : e.den E = x) (hm : 0 ≤ m) : SE.den E (.mm true (.lit 0) (.mm false e (.lit m))) = clI x m := by
  show (if (0 : Int) < (if m < e.den E then m else e.den E) then (if m < e.den E then m else e.den E) else 0) = _
  rw [he, clI_eq _ _ hm]
theorem d0 (h : BdI E) : s0.den E = decide (0 < E.i 0) := by
  simp [s0, SB.den, SE.den, cmpI, iLt_eq, iLe_eq]
theorem d1 (h : BdI E) : s1.den E = decide (E.i 1 < 0) := by
  simp [s1, SB.den, SE.den, cmpI, iLt_eq, iLe_eq]
theorem d2 (h : BdI E) : s2.den E = decide (E.i 2 < 0) := by
  simp [s2, SB.den, SE.den, cmpI, iLt_eq, iLe_eq]
theorem d3 (h : BdI E) : s3.den E = decide (E.i 3 / 16 % 16 < 0) := by
  have e1 : SE.den E (.cv .i64 (.op .rem .u64 (.op .quo .u64 (.v 3) (.lit 16)) (.lit 16))) = E.i 3 / 16 % 16 := den_cvI (e := .op .rem .u64 (.op .quo .u64 (.v 3) (.lit 16)) (.lit 16)) (x := E.i 3 / 16 % 16) (by show arS .rem .u64 (arS .quo .u64 (E.i 3) 16) 16 = _; rw [arQuo, tdiv_pos h.b3.1, IntKind.wrap_u64, arRem, tmod_pos (by have := h.b3; omega)]; have := h.b3; omega) (by have := h.b3; omega) (by have := h.b3; omega)
  have e2 : SE.den E (.lit 0) = 0 := rfl
  show (cmpI .lss (SE.den E (.cv .i64 (.op .rem .u64 (.op .quo .u64 (.v 3) (.lit 16)) (.lit 16)))) (SE.den E (.lit 0))).getD false = _
  rw [e1, e2]
  simp [cmpI, iEq_eq, iLt_eq, iLe_eq]
theorem d4 (h : BdI E) : s4.den E = decide (1 < E.i 3 / 16 % 16) := by
  have e1 : SE.den E (.cv .i64 (.op .rem .u64 (.op .quo .u64 (.v 3) (.lit 16)) (.lit 16))) = E.i 3 / 16 % 16 := den_cvI (e := .op .rem .u64 (.op .quo .u64 (.v 3) (.lit 16)) (.lit 16)) (x := E.i 3 / 16 % 16) (by show arS .rem .u64 (arS .quo .u64 (E.i 3) 16) 16 = _; rw [arQuo, tdiv_pos h.b3.1, IntKind.wrap_u64, arRem, tmod_pos (by have := h.b3; omega)]; have := h.b3; omega) (by have := h.b3; omega) (by have := h.b3; omega)
  have e2 : SE.den E (.lit 1) = 1 := rfl
  show (cmpI .gtr (SE.den E (.cv .i64 (.op .rem .u64 (.op .quo .u64 (.v 3) (.lit 16)) (.lit 16)))) (SE.den E (.lit 1))).getD false = _
  rw [e1, e2]
  simp [cmpI, iEq_eq, iLt_eq, iLe_eq]
theorem d5 (h : BdI E) : s5.den E = decide (E.i 3 % 16 < 0) := by
  have e1 : SE.den E (.cv .i64 (.op .rem .u64 (.v 3) (.lit 16))) = E.i 3 % 16 := den_cvI (e := .op .rem .u64 (.v 3) (.lit 16)) (x := E.i 3 % 16) (by show arS .rem .u64 (E.i 3) 16 = _; rw [arRem, tmod_pos h.b3.1]) (by have := h.b3; omega) (by have := h.b3; omega)
  have e2 : SE.den E (.lit 0) = 0 := rfl
  show (cmpI .lss (SE.den E (.cv .i64 (.op .rem .u64 (.v 3) (.lit 16)))) (SE.den E (.lit 0))).getD false = _
  rw [e1, e2]
  simp [cmpI, iEq_eq, iLt_eq, iLe_eq]
theorem d6 (h : BdI E) : s6.den E = decide (4 < E.i 3 % 16) := by
  have e1 : SE.den E (.cv .i64 (.op .rem .u64 (.v 3) (.lit 16))) = E.i 3 % 16 := den_cvI (e := .op .rem .u64 (.v 3) (.lit 16)) (x := E.i 3 % 16) (by show arS .rem .u64 (E.i 3) 16 = _; rw [arRem, tmod_pos h.b3.1]) (by have := h.b3; omega) (by have := h.b3; omega)
  have e2 : SE.den E (.lit 4) = 4 := rfl
  show (cmpI .gtr (SE.den E (.cv .i64 (.op .rem .u64 (.v 3) (.lit 16)))) (SE.den E (.lit 4))).getD false = _
  rw [e1, e2]
  simp [cmpI, iEq_eq, iLt_eq, iLe_eq]
theorem d7 (h : BdI E) : s7.den E = decide (¬ valA E = SE.den E (.lit 0)) := by
  show (cmpI .neq (SE.den E seA) (SE.den E (.lit 0))).getD false = _
  rw [denA h]
  simp [cmpI, iEq_eq]
theorem d8 (h : BdI E) : s8.den E = decide (¬ E.i 3 / 256 % 1099511627776 = E.i 3 / 256 % 1099511627776) := by
  have e1 : SE.den E (.cv .i64 (.op .and .u64 (.op .shr .u64 (.v 3) (.lit 8)) (.lit 1099511627775))) = E.i 3 / 256 % 1099511627776 := den_cvI (den_and40 (den_shr8 (e := .v 3) (x := E.i 3) rfl h.b3.1) (by have := h.b3; omega) (by have := h.b3; omega)) (by have := h.b3; omega) (by have := h.b3; omega)
  have e2 : SE.den E (.cv .i64 (.op .rem .u64 (.op .quo .u64 (.v 3) (.lit 256)) (.lit 1099511627776))) = E.i 3 / 256 % 1099511627776 := den_cvI (e := .op .rem .u64 (.op .quo .u64 (.v 3) (.lit 256)) (.lit 1099511627776)) (x := E.i 3 / 256 % 1099511627776) (by show arS .rem .u64 (arS .quo .u64 (E.i 3) 256) 1099511627776 = _; rw [arQuo, tdiv_pos h.b3.1, IntKind.wrap_u64, arRem, tmod_pos (by have := h.b3; omega)]; have := h.b3; omega) (by have := h.b3; omega) (by have := h.b3; omega)
  show (cmpI .neq (SE.den E (.cv .i64 (.op .and .u64 (.op .shr .u64 (.v 3) (.lit 8)) (.lit 1099511627775)))) (SE.den E (.cv .i64 (.op .rem .u64 (.op .quo .u64 (.v 3) (.lit 256)) (.lit 1099511627776))))).getD false = _
  rw [e1, e2]
  simp [cmpI, iEq_eq, iLt_eq, iLe_eq]
theorem d9 (h : BdI E) : s9.den E = decide (¬ clI (E.i 3 / 16 % 16) 1 = E.i 3 / 16 % 16) := by
  have e1 : SE.den E (.mm true (.lit 0) (.mm false (.cv .i64 (.op .and .u64 (.op .shr .u64 (.v 3) (.lit 4)) (.lit 15))) (.lit 1))) = clI (E.i 3 / 16 % 16) 1 := den_within (den_cvI (den_and15 (den_shr4 (e := .v 3) (x := E.i 3) rfl h.b3.1) (by have := h.b3; omega) (by have := h.b3; omega)) (by have := h.b3; omega) (by have := h.b3; omega)) (by omega)
  have e2 : SE.den E (.cv .i64 (.op .rem .u64 (.op .quo .u64 (.v 3) (.lit 16)) (.lit 16))) = E.i 3 / 16 % 16 := den_cvI (e := .op .rem .u64 (.op .quo .u64 (.v 3) (.lit 16)) (.lit 16)) (x := E.i 3 / 16 % 16) (by show arS .rem .u64 (arS .quo .u64 (E.i 3) 16) 16 = _; rw [arQuo, tdiv_pos h.b3.1, IntKind.wrap_u64, arRem, tmod_pos (by have := h.b3; omega)]; have := h.b3; omega) (by have := h.b3; omega) (by have := h.b3; omega)
  show (cmpI .neq (SE.den E (.mm true (.lit 0) (.mm false (.cv .i64 (.op .and .u64 (.op .shr .u64 (.v 3) (.lit 4)) (.lit 15))) (.lit 1)))) (SE.den E (.cv .i64 (.op .rem .u64 (.op .quo .u64 (.v 3) (.lit 16)) (.lit 16))))).getD false = _
  rw [e1, e2]
  simp [cmpI, iEq_eq, iLt_eq, iLe_eq]
theorem d10 (h : BdI E) : s10.den E = decide (¬ clI (E.i 3 % 16) 4 = E.i 3 % 16) := by
  have e1 : SE.den E (.mm true (.lit 0) (.mm false (.cv .i64 (.op .and .u64 (.v 3) (.lit 15))) (.lit 4))) = clI (E.i 3 % 16) 4 := den_within (den_cvI (den_and15 (e := .v 3) (x := E.i 3) rfl h.b3.1 (by have := h.b3; omega)) (by have := h.b3; omega) (by have := h.b3; omega)) (by omega)
  have e2 : SE.den E (.cv .i64 (.op .rem .u64 (.v 3) (.lit 16))) = E.i 3 % 16 := den_cvI (e := .op .rem .u64 (.v 3) (.lit 16)) (x := E.i 3 % 16) (by show arS .rem .u64 (E.i 3) 16 = _; rw [arRem, tmod_pos h.b3.1]) (by have := h.b3; omega) (by have := h.b3; omega)
  show (cmpI .neq (SE.den E (.mm true (.lit 0) (.mm false (.cv .i64 (.op .and .u64 (.v 3) (.lit 15))) (.lit 4)))) (SE.den E (.cv .i64 (.op .rem .u64 (.v 3) (.lit 16))))).getD false = _
  rw [e1, e2]
  simp [cmpI, iEq_eq, iLt_eq, iLe_eq]
theorem d11 (h : BdI E) : s11.den E = decide (0 ≤ E.i 0) := by
  simp [s11, SB.den, SE.den, cmpI, iLt_eq, iLe_eq]
theorem d12 (h : BdI E) : s12.den E = decide (¬ clI (E.i 3 % 16) 4 = 4) := by
  have e1 : SE.den E (.mm true (.lit 0) (.mm false (.cv .i64 (.op .and .u64 (.v 3) (.lit 15))) (.lit 4))) = clI (E.i 3 % 16) 4 := den_within (den_cvI (den_and15 (e := .v 3) (x := E.i 3) rfl h.b3.1 (by have := h.b3; omega)) (by have := h.b3; omega) (by have := h.b3; omega)) (by omega)
  have e2 : SE.den E (.lit 4) = 4 := rfl
  show (cmpI .neq (SE.den E (.mm true (.lit 0) (.mm false (.cv .i64 (.op .and .u64 (.v 3) (.lit 15))) (.lit 4)))) (SE.den E (.lit 4))).getD false = _
  rw [e1, e2]
  simp [cmpI, iEq_eq, iLt_eq, iLe_eq]
theorem d13 (h : BdI E) : s13.den E = decide (¬ clI (E.i 3 / 16 % 16) 1 = 1) := by
  have e1 : SE.den E (.mm true (.lit 0) (.mm false (.cv .i64 (.op .and .u64 (.op .shr .u64 (.v 3) (.lit 4)) (.lit 15))) (.lit 1))) = clI (E.i 3 / 16 % 16) 1 := den_within (den_cvI (den_and15 (den_shr4 (e := .v 3) (x := E.i 3) rfl h.b3.1) (by have := h.b3; omega) (by have := h.b3; omega)) (by have := h.b3; omega) (by have := h.b3; omega)) (by omega)
  have e2 : SE.den E (.lit 1) = 1 := rfl
  show (cmpI .neq (SE.den E (.mm true (.lit 0) (.mm false (.cv .i64 (.op .and .u64 (.op .shr .u64 (.v 3) (.lit 4)) (.lit 15))) (.lit 1)))) (SE.den E (.lit 1))).getD false = _
  rw [e1, e2]
  simp [cmpI, iEq_eq, iLt_eq, iLe_eq]
theorem d14 (h : BdI E) : s14.den E = decide (4 < E.i 2) := by
  simp [s14, SB.den, SE.den, cmpI, iLt_eq, iLe_eq]
theorem d15 (h : BdI E) : s15.den E = decide (¬ valA E = SE.den E (.op .add .u64 (.lit 0) (.cv .u64 (.op .add .i64 (.lit 0) (.v 2))))) := by
  show (cmpI .neq (SE.den E seA) (SE.den E (.op .add .u64 (.lit 0) (.cv .u64 (.op .add .i64 (.lit 0) (.v 2)))))).getD false = _
  rw [denA h]
  simp [cmpI, iEq_eq]
theorem d16 (h : BdI E) : s16.den E = decide (¬ valA E = SE.den E (.lit 4)) := by
  show (cmpI .neq (SE.den E seA) (SE.den E (.lit 4))).getD false = _
  rw [denA h]
  simp [cmpI, iEq_eq]
theorem d17 (h : BdI E) : s17.den E = decide (1 < E.i 1) := by
  simp [s17, SB.den, SE.den, cmpI, iLt_eq, iLe_eq]
theorem d18 (h : BdI E) : s18.den E = decide (¬ valA E = SE.den E (.op .add .u64 (.lit 0) (.cv .u64 (.op .add .i64 (.op .mul .i64 (.lit 16) (.v 1)) (.lit 0))))) := by
  show (cmpI .neq (SE.den E seA) (SE.den E (.op .add .u64 (.lit 0) (.cv .u64 (.op .add .i64 (.op .mul .i64 (.lit 16) (.v 1)) (.lit 0)))))).getD false = _
  rw [denA h]
  simp [cmpI, iEq_eq]
theorem d19 (h : BdI E) : s19.den E = decide (¬ valA E = SE.den E (.op .add .u64 (.lit 0) (.cv .u64 (.op .add .i64 (.op .mul .i64 (.lit 16) (.v 1)) (.v 2))))) := by
  show (cmpI .neq (SE.den E seA) (SE.den E (.op .add .u64 (.lit 0) (.cv .u64 (.op .add .i64 (.op .mul .i64 (.lit 16) (.v 1)) (.v 2)))))).getD false = _
  rw [denA h]
  simp [cmpI, iEq_eq]
theorem d20 (h : BdI E) : s20.den E = decide (¬ valA E = SE.den E (.op .add .u64 (.lit 0) (.cv .u64 (.op .add .i64 (.op .mul .i64 (.lit 16) (.v 1)) (.lit 4))))) := by
  show (cmpI .neq (SE.den E seA) (SE.den E (.op .add .u64 (.lit 0) (.cv .u64 (.op .add .i64 (.op .mul .i64 (.lit 16) (.v 1)) (.lit 4)))))).getD false = _
  rw [denA h]
  simp [cmpI, iEq_eq]
theorem d21 (h : BdI E) : s21.den E = decide (¬ valA E = SE.den E (.lit 16)) := by
  show (cmpI .neq (SE.den E seA) (SE.den E (.lit 16))).getD false = _
  rw [denA h]
  simp [cmpI, iEq_eq]
theorem d22 (h : BdI E) : s22.den E = decide (¬ valA E = SE.den E (.op .add .u64 (.lit 0) (.cv .u64 (.op .add .i64 (.lit 16) (.v 2))))) := by
  show (cmpI .neq (SE.den E seA) (SE.den E (.op .add .u64 (.lit 0) (.cv .u64 (.op .add .i64 (.lit 16) (.v 2)))))).getD false = _
  rw [denA h]
  simp [cmpI, iEq_eq]
theorem d23 (h : BdI E) : s23.den E = decide (¬ valA E = SE.den E (.lit 20)) := by
  show (cmpI .neq (SE.den E seA) (SE.den E (.lit 20))).getD false = _
  rw [denA h]
  simp [cmpI, iEq_eq]
theorem d24 (h : BdI E) : s24.den E = decide (E.i 0 < 1099511627776) := by
  simp [s24, SB.den, SE.den, cmpI, iLt_eq, iLe_eq]
theorem d25 (h : BdI E) : s25.den E = decide (0 ≤ E.i 1) := by
  simp [s25, SB.den, SE.den, cmpI, iLt_eq, iLe_eq]
theorem d26 (h : BdI E) : s26.den E = decide (E.i 1 ≤ 1) := by
  simp [s26, SB.den, SE.den, cmpI, iLt_eq, iLe_eq]
theorem d27 (h : BdI E) : s27.den E = decide (0 ≤ E.i 2) := by
  simp [s27, SB.den, SE.den, cmpI, iLt_eq, iLe_eq]
theorem d28 (h : BdI E) : s28.den E = decide (E.i 2 ≤ 4) := by
  simp [s28, SB.den, SE.den, cmpI, iLt_eq, iLe_eq]
theorem d29 (h : BdI E) : s29.den E = decide (valA E / 256 % 1099511627776 = E.i 0) := by
  have e1 : SE.den E (.cv .i64 (.op .and .u64 (.op .shr .u64 seA (.lit 8)) (.lit 1099511627775))) = valA E / 256 % 1099511627776 := den_cvI (den_and40 (den_shr8 (denA h) (valA_bd h).1) (by have := valA_bd h; omega) (by have := valA_bd h; omega)) (by have := valA_bd h; omega) (by have := valA_bd h; omega)
  have e2 : SE.den E (.v 0) = E.i 0 := rfl
  show (cmpI .eql (SE.den E (.cv .i64 (.op .and .u64 (.op .shr .u64 seA (.lit 8)) (.lit 1099511627775)))) (SE.den E (.v 0))).getD false = _
  rw [e1, e2]
  simp [cmpI, iEq_eq, iLt_eq, iLe_eq]
theorem d30 (h : BdI E) : s30.den E = decide (clI (valA E / 16 % 16) 1 = E.i 1) := by
  have e1 : SE.den E (.mm true (.lit 0) (.mm false (.cv .i64 (.op .and .u64 (.op .shr .u64 seA (.lit 4)) (.lit 15))) (.lit 1))) = clI (valA E / 16 % 16) 1 := den_within (den_cvI (den_and15 (den_shr4 (denA h) (valA_bd h).1) (by have := valA_bd h; omega) (by have := valA_bd h; omega)) (by have := valA_bd h; omega) (by have := valA_bd h; omega)) (by omega)
  have e2 : SE.den E (.v 1) = E.i 1 := rfl
  show (cmpI .eql (SE.den E (.mm true (.lit 0) (.mm false (.cv .i64 (.op .and .u64 (.op .shr .u64 seA (.lit 4)) (.lit 15))) (.lit 1)))) (SE.den E (.v 1))).getD false = _
  rw [e1, e2]
  simp [cmpI, iEq_eq, iLt_eq, iLe_eq]
theorem d31 (h : BdI E) : s31.den E = decide (clI (valA E % 16) 4 = E.i 2) := by
  have e1 : SE.den E (.mm true (.lit 0) (.mm false (.cv .i64 (.op .and .u64 seA (.lit 15))) (.lit 4))) = clI (valA E % 16) 4 := den_within (den_cvI (den_and15 (denA h) (valA_bd h).1 (by have := valA_bd h; omega)) (by have := valA_bd h; omega) (by have := valA_bd h; omega)) (by omega)
  have e2 : SE.den E (.v 2) = E.i 2 := rfl
  show (cmpI .eql (SE.den E (.mm true (.lit 0) (.mm false (.cv .i64 (.op .and .u64 seA (.lit 15))) (.lit 4)))) (SE.den E (.v 2))).getD false = _
  rw [e1, e2]
  simp [cmpI, iEq_eq, iLt_eq, iLe_eq]
theorem d32 (h : BdI E) : s32.den E = decide (¬ valA E = SE.den E (.op .add .u64 (.op .mul .u64 (.cv .u64 (.op .rem .i64 (.v 0) (.lit 1099511627776))) (.lit 256)) (.lit 0))) := by
  show (cmpI .neq (SE.den E seA) (SE.den E (.op .add .u64 (.op .mul .u64 (.cv .u64 (.op .rem .i64 (.v 0) (.lit 1099511627776))) (.lit 256)) (.lit 0)))).getD false = _
  rw [denA h]
  simp [cmpI, iEq_eq]
theorem d33 (h : BdI E) : s33.den E = decide (¬ valA E = SE.den E (.op .add .u64 (.op .mul .u64 (.cv .u64 (.op .rem .i64 (.v 0) (.lit 1099511627776))) (.lit 256)) (.cv .u64 (.op .add .i64 (.lit 0) (.v 2))))) := by
  show (cmpI .neq (SE.den E seA) (SE.den E (.op .add .u64 (.op .mul .u64 (.cv .u64 (.op .rem .i64 (.v 0) (.lit 1099511627776))) (.lit 256)) (.cv .u64 (.op .add .i64 (.lit 0) (.v 2)))))).getD false = _
  rw [denA h]
  simp [cmpI, iEq_eq]
theorem d34 (h : BdI E) : s34.den E = decide (¬ valA E = SE.den E (.op .add .u64 (.op .mul .u64 (.cv .u64 (.op .rem .i64 (.v 0) (.lit 1099511627776))) (.lit 256)) (.lit 4))) := by
  show (cmpI .neq (SE.den E seA) (SE.den E (.op .add .u64 (.op .mul .u64 (.cv .u64 (.op .rem .i64 (.v 0) (.lit 1099511627776))) (.lit 256)) (.lit 4)))).getD false = _
  rw [denA h]
  simp [cmpI, iEq_eq]
theorem d35 (h : BdI E) : s35.den E = decide (¬ valA E = SE.den E (.op .add .u64 (.op .mul .u64 (.cv .u64 (.op .rem .i64 (.v 0) (.lit 1099511627776))) (.lit 256)) (.cv .u64 (.op .add .i64 (.op .mul .i64 (.lit 16) (.v 1)) (.lit 0))))) := by
  show (cmpI .neq (SE.den E seA) (SE.den E (.op .add .u64 (.op .mul .u64 (.cv .u64 (.op .rem .i64 (.v 0) (.lit 1099511627776))) (.lit 256)) (.cv .u64 (.op .add .i64 (.op .mul .i64 (.lit 16) (.v 1)) (.lit 0)))))).getD false = _
  rw [denA h]
  simp [cmpI, iEq_eq]
theorem d36 (h : BdI E) : s36.den E = decide (¬ valA E = SE.den E (.op .add .u64 (.op .mul .u64 (.cv .u64 (.op .rem .i64 (.v 0) (.lit 1099511627776))) (.lit 256)) (.cv .u64 (.op .add .i64 (.op .mul .i64 (.lit 16) (.v 1)) (.v 2))))) := by
  show (cmpI .neq (SE.den E seA) (SE.den E (.op .add .u64 (.op .mul .u64 (.cv .u64 (.op .rem .i64 (.v 0) (.lit 1099511627776))) (.lit 256)) (.cv .u64 (.op .add .i64 (.op .mul .i64 (.lit 16) (.v 1)) (.v 2)))))).getD false = _
  rw [denA h]
  simp [cmpI, iEq_eq]
theorem d37 (h : BdI E) : s37.den E = decide (¬ valA E = SE.den E (.op .add .u64 (.op .mul .u64 (.cv .u64 (.op .rem .i64 (.v 0) (.lit 1099511627776))) (.lit 256)) (.cv .u64 (.op .add .i64 (.op .mul .i64 (.lit 16) (.v 1)) (.lit 4))))) := by
  show (cmpI .neq (SE.den E seA) (SE.den E (.op .add .u64 (.op .mul .u64 (.cv .u64 (.op .rem .i64 (.v 0) (.lit 1099511627776))) (.lit 256)) (.cv .u64 (.op .add .i64 (.op .mul .i64 (.lit 16) (.v 1)) (.lit 4)))))).getD false = _
  rw [denA h]
  simp [cmpI, iEq_eq]
theorem d38 (h : BdI E) : s38.den E = decide (¬ valA E = SE.den E (.op .add .u64 (.op .mul .u64 (.cv .u64 (.op .rem .i64 (.v 0) (.lit 1099511627776))) (.lit 256)) (.lit 16))) := by
  show (cmpI .neq (SE.den E seA) (SE.den E (.op .add .u64 (.op .mul .u64 (.cv .u64 (.op .rem .i64 (.v 0) (.lit 1099511627776))) (.lit 256)) (.lit 16)))).getD false = _
  rw [denA h]
  simp [cmpI, iEq_eq]
theorem d39 (h : BdI E) : s39.den E = decide (¬ valA E = SE.den E (.op .add .u64 (.op .mul .u64 (.cv .u64 (.op .rem .i64 (.v 0) (.lit 1099511627776))) (.lit 256)) (.cv .u64 (.op .add .i64 (.lit 16) (.v 2))))) := by
  show (cmpI .neq (SE.den E seA) (SE.den E (.op .add .u64 (.op .mul .u64 (.cv .u64 (.op .rem .i64 (.v 0) (.lit 1099511627776))) (.lit 256)) (.cv .u64 (.op .add .i64 (.lit 16) (.v 2)))))).getD false = _
  rw [denA h]
  simp [cmpI, iEq_eq]
theorem d40 (h : BdI E) : s40.den E = decide (¬ valA E = SE.den E (.op .add .u64 (.op .mul .u64 (.cv .u64 (.op .rem .i64 (.v 0) (.lit 1099511627776))) (.lit 256)) (.lit 20))) := by
  show (cmpI .neq (SE.den E seA) (SE.den E (.op .add .u64 (.op .mul .u64 (.cv .u64 (.op .rem .i64 (.v 0) (.lit 1099511627776))) (.lit 256)) (.lit 20)))).getD false = _
  rw [denA h]
  simp [cmpI, iEq_eq]
end Go.Ev.X
end
