/-
 The acts' tables, case by case: 1 woken; 2, 3, 4 stopped (as nothing, as waiting, not at all); 5 a yield; 6 a tick; 7, 8, 9 a priority (a right one, one below, one above); 10 it settles; 0 the list's end.
-/
import Derived.Test.YtkecfebodpkamaaGreatMBR
import Derived.Test.YtkecfebodpkamaaGreatMB
import Derived.Test.YtkecfebodpkamaaGreatAY
import Derived.Test.YtkecfebodpkamaaGreatGB
import Derived.Test.YtkecfebodpkamaaGreatE6
set_option linter.unusedSimpArgs false
set_option linter.unusedVariables false
set_option maxRecDepth 100000
noncomputable section
namespace Go.Ev.X
open Go Go.Ev Go.Proofs
variable {E : Env} {f : Nat → Int} {t : Nat}
def callAx (inner : CallT) : CallT := fun F l h fa k => bc (Nat.beq F 8) (aHook l h fa k) (inner F l h fa k)
theorem callAx_ok {inner : CallT} (h : CallOk E PP inner) : CallOk E PP (callAx inner) := by
 intro F l h0 fa k hk hfa
 have hk : bc (Nat.beq F 8) (aHook l h0 fa k) (inner F l h0 fa k) = 0 := hk
 cases e : Nat.beq F 8 with
 | true => exact aHook_ok (cx1_ok (lenAll E)) (call1_ok (lenAll E)) F l h0 fa k (by show bc (Nat.beq F 8) _ 1 = 0; rw [e] at hk ⊢; exact hk) hfa
 | false => rw [e] at hk; exact h F l h0 fa k hk hfa
def TE : SE := .op .add .i64 (.lit 1024) (.op .mul .i64 (.lit 64) (.v 300))
def esA (w y s p g q : Nat) (r : Nat) (k : SE) (j : Nat) : List Ent := match j with
 | 1 => [⟨w, [.si .i64 TE], r, .tup [], k⟩]
 | 2 => [⟨s, [.si .i64 TE, .i .i64 0], r, .tup [], k⟩]
 | 3 => [⟨s, [.si .i64 TE, .i .i64 4], r, .tup [], k⟩]
 | 5 => [⟨y, [], r, .tup [], k⟩]
 | 6 => [⟨g, [], r, .tup [], k⟩]
 | 7 => [⟨p, [.si .i64 TE, .si .i64 (.v 7)], r, .i .i64 0, k⟩]
 | 10 => [⟨q, [], r, .tup [], k⟩]
 | _ => []
def esP : Nat → List Ent := esA 12 22 17 11 14 13 101 (.v 310)
def esR : Nat → List Ent := esA 46 48 47 50 49 51 201 (.v 311)
def stays (j : Nat) : Bool := match j with
 | 0 => true
 | 4 => true
 | 8 => true
 | 9 => true
 | _ => false
def rpA (j : Nat) : Nat := bif stays j then 100 else 101
def rrA (j : Nat) : Nat := bif stays j then 200 else 201
def p4A : PEnt := ⟨27, [.si .i64 (.v 4), .i .i64 4], .si .i64 (.v 300)⟩
def psA (j : Nat) : List PEnt := match j with
 | 0 => []
 | 2 => [p4A, ⟨27, [.si .i64 (.v 7), .i .i64 3], .i .i64 0⟩]
 | 3 => [p4A, ⟨27, [.si .i64 (.v 7), .i .i64 3], .i .i64 1⟩]
 | 4 => [p4A, ⟨27, [.si .i64 (.v 7), .i .i64 3], .i .i64 2⟩]
 | _ => [p4A]
def fsN : Nat → List (SB × Bool)
 | 0 => []
 | n + 1 => (.cmp .eql (.v 3) (.lit (.ofNat (n + 1))), false) :: fsN n
def fsA (j : Nat) : List (SB × Bool) := match j with
 | 1 => [(.cmp .eql (.v 3) (.lit 1), true)]
 | 2 => (.cmp .eql (.v 3) (.lit 2), true) :: fsN 1
 | 3 => (.cmp .eql (.v 3) (.lit 2), true) :: fsN 1
 | 4 => (.cmp .eql (.v 3) (.lit 2), true) :: fsN 1
 | 5 => (.cmp .eql (.v 3) (.lit 3), true) :: fsN 2
 | 6 => (.cmp .eql (.v 3) (.lit 4), true) :: fsN 3
 | 7 => (.cmp .eql (.v 3) (.lit 5), true) :: fsN 4
 | 8 => (.cmp .eql (.v 3) (.lit 5), true) :: (.cmp .lss (.v 7) (.lit 0), true) :: (.cmp .geq (.v 7) (.lit 0), false) :: fsN 4
 | 9 => (.cmp .eql (.v 3) (.lit 5), true) :: (.cmp .lss (.v 7) (.lit 0), false) :: (.cmp .geq (.v 7) (.lit 0), true) :: (.cmp .gtr (.v 7) (.lit 255), true) :: (.cmp .geq (.v 7) (.lit 256), true) :: fsN 4
 | 10 => fsN 5
 | _ => []
def cxA (j : Nat) : Cx := cxM (cxM cx0 cP 100 (esP j) (psA j)) cR 200 (esR j) []
def s5A (j : Nat) : SE := bif stays j then .v 5 else .op .add .i64 (.v 5) (.v 310)
def s6A (j : Nat) : SE := bif stays j then .v 6 else .op .add .i64 (.v 6) (.v 311)
def hA (j : Nat) : H := ⟨q1380, q2, (((((((PT.e : PT O).set q1 (.row 0 3 (.v 1) (.v 2) (bif Nat.beq j 0 then [] else [.si .i64 (.v 3), .si .i64 (.v 4), .si .i64 (.v 7)]))).set q2 (.oa 37 200 8192 13 .nil)).set q3 (.cells 61 [.sl q2 0 8192 8192, .si .i64 (.v 6)])).set q1377 (.oa 37 100 8192 13 .nil)).set q1378 (.cells 97 [.sl q1377 0 8192 8192, .si .i64 (.v 5)])).set q1379 (.cells 31 [.ptr q1378 0, .ptr q3 0]))⟩
def fG (n : Int) (j : Nat) : List (SB × Bool) := (.cmp .lss (.v 2) (.v 1), true) :: (.cmp .lss (.v 2) (.lit n), true) :: fsA j
def fO (n : Int) (b : Bool) : List (SB × Bool) := bif b then [(.cmp .lss (.v 2) (.v 1), true), (.cmp .lss (.v 2) (.lit n), false)] else [(.cmp .lss (.v 2) (.v 1), false)]
end Go.Ev.X
end
