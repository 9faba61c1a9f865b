/-
 ReadyPlays: its runs (definitions).
-/
import Derived.Test.YtgaelfnoffejgaaRA
import Derived.Test.YtgaelfnoffejgaaMMo
import Derived.Test.YtgaelfnoffejgaaE6
import Derived.Test.YtgaelfnoffejgaaE7
set_option linter.unusedSimpArgs false
set_option linter.unusedVariables false
set_option maxRecDepth 100000
noncomputable section
namespace Go.Ev.X
open Go Go.Ev Go.Proofs
def qp : CutX := ⟨(.seqR (.ops [.op (some k4) none (.mov (.c (.b false)))]) (.seqR (.seq (.ops [.op (some k9) none (.mov (.s k0)), .op (some k10) none (.lens (.s k9)), .op (some k11) none (.bin .gtr .num (.s k10) (.c (.i .i64 2147483647))), .op (some k12) none (.mov (.s k11)), .op (some k13) (some (k12, false)) (.mov (.s k1)), .op (some k14) (some (k12, false)) (.lens (.s k13)), .op (some k15) (some (k12, false)) (.bin .gtr .num (.s k14) (.c (.i .i64 2147483647))), .op (some k16) none (.pick (.s k12) (.c (.b true)) (.s k15))]) (.cond k16 (.seq (.ops [.op (some k4) none (.mov (.c (.b true)))]) .ret) .skip)) (.seqR (.ops [.call (some k17) none (.c (.fn 8 [] [])) [], .op (some k5) none (.mov (.s k17))]) (.seqR (.ops [.op (some k18) none (.mov (.s k0)), .call (some k19) none (.c (.fn 9 [] [])) [(.s k18)], .op (some k6) none (.mov (.s k19))]) (.seqR (.seq (.ops [.op (some k20) none (.mov (.s k6)), .op (some k21) none (.bin .eql .ptr (.s k20) (.c .nil))]) (.cond k21 (.seq (.ops [.op (some k4) none (.mov (.c (.b false)))]) .ret) .skip)) (.seqL (.seqR (.ops [.op (some k7) none (.mov (.c (.i .i64 0)))]) (.block 0 .hole)) (.seq (.ops [.op (some k36) none (.mov (.s k5)), .op (some k4) none (.mov (.s k36))]) .ret))))))), (.seq (.seq (.ops [.op (some k22) none (.mov (.s k7)), .op (some k23) none (.mov (.s k1)), .op (some k24) none (.lens (.s k23)), .op (some k25) none (.bin .lss .num (.s k22) (.s k24))]) (.cond k25 .skip (.exit 0))) (.seq (.block 1 (.seq (.ops [.op (some k28) none (.mov (.s k6)), .op (some k29) none (.mov (.s k1)), .op (some k30) none (.mov (.s k7)), .op (some k31) none (.ixs 3 (.s k29) (.s k30)), .op (some k32) none (.ldn 3 (.s k31)), .call (some k33) none (.c (.fn 22 [] [])) [(.s k28), (.s k32)], .op (some k8) none (.mov (.s k33))]) (.seq (.ops [.op (some k34) none (.mov (.s k8)), .op (some k35) none (.not (.s k34))]) (.cond k35 (.seq (.ops [.op (some k4) none (.mov (.c (.b false)))]) .ret) .skip)))) (.ops [.op (some k26) none (.mov (.s k7)), .op (some k27) none (.bin .add .num (.s k26) (.c (.i .i64 1))), .op (some k7) none (.mov (.s k27))]))), [.tmp k4]⟩
def l3Y : List V := [.si .i64 (.v 13), .si .i64 (.v 14), .si .i64 (.v 15)]
def o1l (z : Nat) (l : List V) : O := match z with
 | 0 => .dead
 | z + 1 => .row 1 (z + 1) (.v 11) (.v 12) l
def hY (z j : Nat) : H := ⟨q8, q3, (((((((PT.e : PT O).set q2 (o1l z (bif Nat.beq j 0 then [] else l3Y))).set q3 (.oa 33 100 2048 13 .nil)).set q4 (.cells 98 [.sl q3 0 2048 2048, .si .i64 (.v 5)])).set q5 (.oa 33 200 2048 13 .nil)).set q6 (.cells 96 [.sl q5 0 2048 2048, .si .i64 (.v 6)])).set q7 (.cells 32 [.ptr q4 0, .ptr q6 0]))⟩
def frY (z : Nat) : List (Ky × V) := [(k1, a1 z), (k5, .b true), (k6, .ptr q7 0), (k7, .si .i64 (.v 12))]
def stY (z j : Nat) : GS := ⟨frY z, hY z j⟩
def nxY (z : Nat) (σ : Sg) : List (Nat × Sg) := bif Nat.beq z 0 then [(0, σ)] else [(0, σ), (1, σ)]
def vT : V := .si .i64 (.v 300)
def thY : V := tA 1300 (sv 1300) (sv 303) (sv 1302) (tv 1303) (sv 1304) (sv 1305) (sv 1306) (sv 1307) (tv 1308) (tv 1309) (sv 1310) (sv 1311) (sv 1312) (sv 1313)
def acP (c : Nat) : List Ent := match c with
 | 1 => [⟨11, [vT], 101, .i .i64 0, .v 310⟩]
 | 2 => [⟨11, [vT], 101, .i .i64 120, .v 310⟩]
 | 4 => [⟨21, [vT], 101, .i .i64 0, .v 310⟩]
 | 5 => [⟨21, [vT], 101, .i .i64 120, .v 310⟩]
 | 7 => [⟨12, [vT], 101, .i .i64 0, .v 310⟩]
 | 8 => [⟨12, [vT], 101, .i .i64 121, .v 310⟩]
 | 10 => [⟨28, [vT, thY], 101, .i .i64 0, .v 310⟩]
 | _ => []
def acR (c : Nat) : List Ent := match c with
 | 1 => [⟨46, [vT, .b false], 201, .i .i64 0, .v 316⟩]
 | 2 => [⟨46, [vT, .b false], 201, .i .i64 120, .v 316⟩]
 | 4 => [⟨46, [vT, .b true], 201, .i .i64 0, .v 316⟩]
 | 5 => [⟨46, [vT, .b true], 201, .i .i64 120, .v 316⟩]
 | 7 => [⟨47, [vT], 201, .i .i64 0, .v 316⟩]
 | 8 => [⟨47, [vT], 201, .i .i64 121, .v 316⟩]
 | 10 => [⟨48, [vT], 201, .tup [tD 1300, .i .i64 0], .v 316⟩, ⟨29, [vT, thY], 202, .i .i64 0, .v 317⟩]
 | 11 => [⟨48, [vT], 201, .tup [tD 1300, .i .i64 0], .v 316⟩]
 | _ => []
def bP (c : Nat) : Nat := 100 + (acP c).length
def bR (c : Nat) : Nat := 200 + (acR c).length
def symP : Nat → SE
 | 0 => .v 450
 | i + 1 => .v (805 + 40 * i)
def thrT (F b n i : Nat) : Ent := ⟨F, [.si .i64 (symP i)], b + 4 + i, .tup [tA (800 + 40 * i) (sv (800 + 40 * i)) (sv (801 + 40 * i)) (sv (802 + 40 * i)) (tv (803 + 40 * i)) (sv (804 + 40 * i)) (bif Nat.beq (i + 1) n then .i .i64 0 else sv (805 + 40 * i)) (sv (806 + 40 * i)) (sv (807 + 40 * i)) (tv (808 + 40 * i)) (tv (809 + 40 * i)) (sv (810 + 40 * i)) (sv (811 + 40 * i)) (sv (812 + 40 * i)) (sv (813 + 40 * i)), .i .i64 0], .lit 20⟩
def fvT (d : Nat) : V := bif Nat.beq d 0 then .i .i64 0 else .si .i64 (.v 450)
def tlX (H F T : Nat) (k : SE) (b d : Nat) : List Ent := ⟨H, [], b + 1, .si .i64 (.v 302), k⟩ :: (bif Nat.ble d 8 then ⟨F, [.si .i64 (.v 15)], b + 2, fvT d, .lit 1⟩ :: ⟨F, [.si .i64 (.v 15)], b + 3, fvT d, .lit 1⟩ :: (rng d).map (thrT T b d) else [])
def tlP (b d : Nat) : List Ent := tlX 14 15 13 (.v 311) b d
def tlR (b d : Nat) : List Ent := tlX 49 50 48 (.v 318) b d
def lastY (b d : Nat) : Nat := b + (bif Nat.ble d 8 then 3 + d else 1)
def rpY (c d : Nat) : Nat := lastY (bP c) d
def rrY (c d : Nat) : Nat := lastY (bR c) d
def nobY (c : Nat) : Bool := match c with
 | 3 => true
 | 6 => true
 | 9 => true
 | 12 => true
 | _ => false
def psY (c : Nat) : List PEnt := ⟨10, [.si .i64 (.v 14)], bif nobY c then .i .i64 1056 else vT⟩ :: (bif Nat.beq c 10 then [⟨17, [.si .i64 (.v 15)], .si .i64 (.v 303)⟩] else [])
def opY (c : Nat) : Nat := Nat.div (c + 2) 3
def fsX : Nat → List (SB × Bool)
 | 0 => []
 | n + 1 => (.cmp .eql (.v 13) (.lit (.ofNat (n + 1))), false) :: fsX n
def fsO (c : Nat) : List (SB × Bool) := (bif Nat.ble c 12 then [(.cmp .eql (.v 13) (.lit (.ofNat (opY c))), true)] else []) ++ fsX (Nat.pred (opY c))
def fsC (c : Nat) : List (SB × Bool) := match c with
 | 10 => [(.cmp .eql (.v 1303) (.lit 1), false)]
 | 11 => [(.cmp .eql (.v 1303) (.lit 1), true)]
 | _ => []
def fsD (d : Nat) : List (SB × Bool) := (.cmp .eql (.v 302) (.v 302), true) :: (match d with
 | 0 => []
 | 9 => [(.cmp .lss (.v 15) (.lit 0), true), (.cmp .geq (.v 15) (.lit 0), false)]
 | 10 => [(.cmp .lss (.v 15) (.lit 0), false), (.cmp .geq (.v 15) (.lit 0), true), (.cmp .lss (.v 15) (.lit 256), false), (.cmp .gtr (.v 15) (.lit 255), true)]
 | n => (.cmp .eql (.v 450) (.v 450), true) :: ((rng n).map (fun i => (.cmp .neq (symP i) (.lit 0), true)) ++ (rng n).map (fun i => (.cmp .neq (symP i) (symP i), false))))
def actsY (c : Nat) : Bool := Nat.beq (bP c) 101
def stA (c : Nat) : SE := bif actsY c then .op .add .i64 (.v 5) (.v 310) else .v 5
def stB (c : Nat) : SE := .op .add .i64 (stA c) (.v 311)
def fsS (c : Nat) : List (SB × Bool) := [(.cmp .leq (.op .sub .i64 (stA c) (.v 5)) (.lit 200), true), (.cmp .leq (.op .sub .i64 (stB c) (stA c)) (.lit 3), true)]
def fsY (c d : Nat) : List (SB × Bool) := fsO c ++ (fsC c ++ (fsD d ++ fsS c))
def fY (c d : Nat) : List (SB × Bool) := (.cmp .lss (.v 12) (.v 11), true) :: fsY c d
def addL (e : SE) (d : Nat) : SE := bif Nat.ble d 8 then .op .add .i64 e (.lit (.ofNat (2 + 20 * d))) else e
def s5Y (c d : Nat) : SE := addL (stB c) d
def s6A (c : Nat) : SE := match (acR c).length with
 | 0 => .v 6
 | 1 => .op .add .i64 (.v 6) (.v 316)
 | _ => .op .add .i64 (.op .add .i64 (.v 6) (.v 316)) (.v 317)
def s6Y (c d : Nat) : SE := addL (.op .add .i64 (s6A c) (.v 318)) d
def sgY (c d : Nat) : Sg := sgL [(11, .v 11), (12, .op .add .i64 (.v 12) (.lit 1)), (5, s5Y c d), (6, s6Y c d), (100100, .lit (.ofNat (rpY c d))), (100200, .lit (.ofNat (rrY c d)))]
def sgY0 : Sg := sgL [(11, .v 11), (12, .lit 0), (5, .v 5), (6, .v 6), (100100, .lit 100), (100200, .lit 200)]
def cxY (c d : Nat) : Cx := cxW (cxI (callT cx0 20) (cxI (callT cx0 20) (cxM cx0 cP 100 [] (psY c)) cP 100 (acP c ++ tlP (bP c) d)) cR 200 (acR c ++ tlR (bR c) d)) 44 20 33 2048 [rpY c d] [(rpY c d, rrY c d)]
def gY (c d : Nat) : Ctx := ⟨callT (cxY c d) 20, 6, 20000⟩
def goY (c d : Nat) : Nat := runJ (stY 3) qp.x qp.z (koB qp.rs) (gY c d) 1 ⟨fY c d, []⟩ (nxY 3 (sgY c d))
def fE (z : Nat) : List (SB × Bool) := [(bif Nat.beq z 0 then (.cmp .lss (.v 12) (.lit 0), false) else (.cmp .lss (.v 12) (.v 11), false))]
def outY (z : Nat) : Nat := runJ (stY z) qp.x qp.z (koB qp.rs) ⟨callT cx0 20, 6, 20000⟩ 0 ⟨fE z, []⟩ []
def fI (b : Bool) (z : Nat) : List (SB × Bool) := (bif b then [] else [(.cmp .gtr (.v 1) (.lit 2147483647), false)]) ++ (bif Nat.beq z 0 then [] else [(.cmp .gtr (.v 11) (.lit 2147483647), false)])
def inYc (b : Bool) (z : Nat) : CallT := callAx (memo (mdM false b z) (callT cx0 20))
def inY (b : Bool) (z : Nat) : Nat := initFr [a0 b, a1 z] (fun fr => zIn qp.z ⟨inYc b z, 6, 20000⟩ fr (hM0 false b z) ⟨fI b z, []⟩ (fun fr h _ => nextK (stY z) (nxY z sgY0) fr h) (koB qp.rs))
def fL0 : List (SB × Bool) := [(.cmp .gtr (.v 1) (.lit 2147483647), true)]
def fL1 (b : Bool) : List (SB × Bool) := (bif b then [] else [(.cmp .gtr (.v 1) (.lit 2147483647), false)]) ++ [(.cmp .gtr (.v 11) (.lit 2147483647), true)]
def bigY (b : Bool) (z : Nat) (fs : List (SB × Bool)) : Nat := callS cx0 0 noCall 6 [a0 b, a1 z] (hM0 false b z) ⟨fs, []⟩ (endV (.b true))
theorem qcp : cutX (tyOf Try.prog) drN Try.f6 = some qp := by kernel_rfl
theorem outY_ok : outY 0 = 0 ∧ outY 3 = 0 := by decide +kernel
theorem inY_ok : allB (fun b => Nat.beq (inY b 0) 0 && Nat.beq (inY b 3) 0) bools = true := by decide +kernel
theorem bigY_ok : (bigY false 0 fL0 = 0 ∧ bigY false 3 fL0 = 0) ∧ (bigY false 3 (fL1 false) = 0 ∧ bigY true 3 (fL1 true) = 0) := by decide +kernel
end Go.Ev.X
end
