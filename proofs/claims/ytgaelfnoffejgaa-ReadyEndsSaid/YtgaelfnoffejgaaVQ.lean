/-
 ReadyEnds: its runs.
-/
import Derived.Test.YtgaelfnoffejgaaRA
import Derived.Test.YtgaelfnoffejgaaEvCz
import Derived.Test.YtgaelfnoffejgaaUR
import Derived.Test.YtgaelfnoffejgaaEvLd
import Derived.Test.YtgaelfnoffejgaaE6
import Derived.Test.YtgaelfnoffejgaaEvG3
set_option linter.unusedSimpArgs false
set_option linter.unusedVariables false
set_option maxRecDepth 100000
noncomputable section
namespace Go.Ev.X
open Go Go.Ev Go.Proofs
def qe : CutX := ⟨(.seqR (.ops [.op (some k6) none (.mov (.c (.b false)))]) (.seqR (.seq (.ops [.op (some k16) none (.mov (.s k0)), .op (some k17) none (.lens (.s k16)), .op (some k18) none (.bin .gtr .num (.s k17) (.c (.i .i64 2147483647)))]) (.cond k18 (.seq (.ops [.op (some k6) none (.mov (.c (.b true)))]) .ret) .skip)) (.seqR (.ops [.call (some k19) none (.c (.fn 8 [] [])) [], .op (some k7) none (.mov (.s k19))]) (.seqR (.ops [.call (some k21) none (.c (.fn 23 [] [])) [(.c (.i .i64 11))], .op (some k20) none (.mov (.s k21)), .op (some k22) none (.ext (.s k20) 0), .op (some k23) none (.ext (.s k20) 1), .op (some k8) none (.mov (.s k22)), .op (some k9) none (.mov (.s k23))]) (.seqR (.seq (.ops [.op (some k24) none (.mov (.s k8)), .op (some k25) none (.bin .eql .ptr (.s k24) (.c .nil)), .op (some k26) none (.mov (.s k25)), .op (some k27) (some (k26, false)) (.mov (.s k9)), .op (some k28) (some (k26, false)) (.bin .neq .num (.s k27) (.c (.i .i64 0))), .op (some k29) none (.pick (.s k26) (.c (.b true)) (.s k28))]) (.cond k29 (.seq (.ops [.op (some k6) none (.mov (.c (.b false)))]) .ret) .skip)) (.seqL (.seqR (.ops [.op (some k10) none (.mov (.c (.i .i64 0)))]) (.block 0 .hole)) (.seq (.seq (.ops [.op (some k11) none (.mov (.c (.i .i64 0)))]) (.block 2 (.loop (.seq (.seq (.ops [.op (some k49) none (.mov (.s k11)), .op (some k50) none (.bin .lss .num (.s k49) (.c (.i .i64 5)))]) (.cond k50 .skip (.exit 2))) (.seq (.block 3 (.seq (.ops [.op (some k53) none (.mov (.s k8)), .call (some k54) none (.c (.fn 25 [] [])) [(.s k53)], .op (some k12) none (.mov (.s k54))]) (.seq (.seq (.ops [.op (some k55) none (.mov (.s k11))]) (.block 4 (.seq (.ops [.op (some k59) none (.bin .eql .num (.s k55) (.c (.i .i64 0))), .op (some k58) none (.mov (.s k59))]) (.cond k58 (.ops [.op (some k60) none (.mov (.s k8)), .op (some k61) none (.mov (.s k1)), .call (some k62) none (.c (.fn 11 [] [])) [(.s k60), (.s k61)]]) (.seq (.ops [.op (some k64) none (.bin .eql .num (.s k55) (.c (.i .i64 1))), .op (some k63) none (.mov (.s k64))]) (.cond k63 (.ops [.op (some k65) none (.mov (.s k8)), .op (some k66) none (.mov (.s k1)), .call (some k67) none (.c (.fn 12 [] [])) [(.s k65), (.s k66)]]) (.seq (.ops [.op (some k69) none (.bin .eql .num (.s k55) (.c (.i .i64 2))), .op (some k68) none (.mov (.s k69))]) (.cond k68 (.ops [.op (some k70) none (.mov (.s k8)), .op (some k71) none (.mov (.s k1)), .call (some k72) none (.c (.fn 21 [] [])) [(.s k70), (.s k71)]]) (.seq (.ops [.op (some k74) none (.bin .eql .num (.s k55) (.c (.i .i64 3))), .op (some k73) none (.mov (.s k74))]) (.cond k73 (.ops [.op (some k75) none (.mov (.s k8)), .op (some k76) none (.mov (.s k2)), .call (some k77) none (.c (.fn 15 [] [])) [(.s k75), (.s k76)]]) (.ops [.op (some k56) none (.mov (.s k8)), .call (some k57) none (.c (.fn 14 [] [])) [(.s k56)]]))))))))))) (.seq (.ops [.op (some k78) none (.mov (.s k8)), .call (some k79) none (.c (.fn 25 [] [])) [(.s k78)], .op (some k13) none (.mov (.s k79))]) (.seq (.ops [.op (some k80) none (.mov (.s k13)), .op (some k81) none (.mov (.s k12)), .op (some k82) none (.bin .sub .num (.s k80) (.s k81)), .op (some k83) none (.bin .gtr .num (.s k82) (.c (.i .i64 200)))]) (.cond k83 (.seq (.ops [.op (some k6) none (.mov (.c (.b false)))]) .ret) .skip)))))) (.ops [.op (some k51) none (.mov (.s k11)), .op (some k52) none (.bin .add .num (.s k51) (.c (.i .i64 1))), .op (some k11) none (.mov (.s k52))])))))) (.seq (.ops [.op (some k85) none (.mov (.s k8)), .op (some k86) none (.mov (.s k2)), .call (some k87) none (.c (.fn 18 [] [])) [(.s k85), (.s k86)], .op (some k84) none (.mov (.s k87)), .op (some k88) none (.ext (.s k84) 0), .op (some k89) none (.ext (.s k84) 1), .op (some k14) none (.mov (.s k88)), .op (some k15) none (.mov (.s k89))]) (.seq (.ops [.op (some k90) none (.mov (.s k7)), .op (some k91) none (.mov (.s k90)), .op (some k92) (some (k91, true)) (.mov (.s k15)), .op (some k93) (some (k91, true)) (.bin .eql .num (.s k92) (.c (.i .i64 0))), .op (some k94) (some (k91, true)) (.mov (.s k93)), .op (some k95) (some (k94, true)) (.mov (.s k14)), .op (some k96) (some (k94, true)) (.lens (.s k95)), .op (some k97) (some (k94, true)) (.bin .leq .num (.s k96) (.c (.i .i64 32))), .op (some k98) (some (k91, true)) (.pick (.s k94) (.s k97) (.c (.b false))), .op (some k99) (some (k91, true)) (.mov (.s k98)), .op (some k100) (some (k99, false)) (.mov (.s k15)), .op (some k101) (some (k99, false)) (.bin .eql .num (.s k100) (.c (.i .i64 90))), .op (some k102) (some (k99, false)) (.mov (.s k101)), .op (some k103) (some (k102, true)) (.mov (.s k14)), .op (some k104) (some (k102, true)) (.lens (.s k103)), .op (some k105) (some (k102, true)) (.bin .eql .num (.s k104) (.c (.i .i64 0))), .op (some k106) (some (k99, false)) (.pick (.s k102) (.s k105) (.c (.b false))), .op (some k107) (some (k91, true)) (.pick (.s k99) (.c (.b true)) (.s k106)), .op (some k108) none (.pick (.s k91) (.s k107) (.c (.b false))), .op (some k6) none (.mov (.s k108))]) .ret))))))))), (.seq (.seq (.ops [.op (some k30) none (.mov (.s k10)), .op (some k31) none (.mov (.s k0)), .op (some k32) none (.lens (.s k31)), .op (some k33) none (.bin .lss .num (.s k30) (.s k32))]) (.cond k33 .skip (.exit 0))) (.seq (.block 1 (.seq (.hops [] [(true, .op (some k36) none (.mov (.s k8))), (true, .op (some k37) none (.mov (.s k0))), (true, .op (some k38) none (.mov (.s k10))), (true, .op (some k39) none (.ixs 2 (.s k37) (.s k38))), (true, .op (some k40) none (.fad 0 (.s k39))), (true, .op (some k41) none (.ld (.s k40))), (true, .op (some k42) none (.mov (.s k0))), (true, .op (some k43) none (.mov (.s k10))), (true, .op (some k44) none (.ixs 2 (.s k42) (.s k43))), (true, .op (some k45) none (.fad 1 (.s k44))), (true, .op (some k46) none (.ld (.s k45))), (false, .op (some k47) none (.bsl 33 1 [(.i .u64 0)] [(0, 1, (.s k46))]))]) (.ops [.call (some k48) none (.c (.fn 24 [] [])) [(.s k36), (.s k41), (.s k47)]]))) (.ops [.op (some k34) none (.mov (.s k10)), .op (some k35) none (.bin .add .num (.s k34) (.c (.i .i64 1))), .op (some k10) none (.mov (.s k35))]))), [.tmp k6]⟩
def o1v (z : Nat) (l : List V) : O := match z with
 | 0 => .dead
 | z + 1 => .row 1 (z + 1) (.v 11) (.v 12) l
def a1v (z : Nat) : V := bif Nat.beq z 0 then .snil else .fs q1 1
def hV (z j : Nat) : H := ⟨q4, q2, ((((PT.e : PT O).set q1 (o1v z (bif Nat.beq j 0 then [] else [.si .i64 (.v 13), .si .u64 (.v 14)]))).set q2 (.oa 33 100 2048 13 .nil)).set q3 (.cells 98 [.sl q2 0 2048 2048, .si .i64 (.v 5)]))⟩
def frV (z : Nat) : List (Ky × V) := [(k0, a1v z), (k1, .si .i64 (.v 20)), (k2, .si .i64 (.v 21)), (k7, .b true), (k8, .ptr q3 0), (k10, .si .i64 (.v 12))]
def stV (z j : Nat) : GS := ⟨frV z, hV z j⟩
def nxV (z : Nat) (σ : Sg) : List (Nat × Sg) := bif Nat.beq z 0 then [(0, σ)] else [(0, σ), (1, σ)]
def sgV : Sg := sgL [(11, .v 11), (12, .op .add .i64 (.v 12) (.lit 1)), (5, .v 5), (20, .v 20), (21, .v 21), (100100, .lit 101)]
def sgV0 : Sg := sgL [(11, .v 11), (12, .lit 0), (5, .lit 0), (20, .v 20), (21, .v 21), (100100, .lit 150)]
def ldV : LdE := ⟨24, 100, 101, .si .i64 (.v 13), .si .u64 (.v 14), 390⟩
def gV : Ctx := ⟨callT (cxH cx0 24 (ldK cP ldV)) 20, 7, 20000⟩
def goV : Nat := runJ (stV 2) qe.x qe.z (koB qe.rs) gV 1 ⟨[(.cmp .lss (.v 12) (.v 11), true)], []⟩ (nxV 2 sgV)
def h0V (z : Nat) : H := ⟨q2, q2, (PT.e : PT O).set q1 (o1v z [])⟩
def fI (z : Nat) : List (SB × Bool) := bif Nat.beq z 0 then [] else [(.cmp .gtr (.v 11) (.lit 2147483647), false)]
def inVc : CallT := callAx (asRow 23 q2 (.arr 33 2048 13 (.i .u64 0) .nil) (.oa 33 150 2048 13 .nil) (callT cx0 20))
def arV (z : Nat) : List V := [a1v z, .si .i64 (.v 20), .si .i64 (.v 21)]
def inV (z : Nat) : Nat := initFr (arV z) (fun fr => zIn qe.z ⟨inVc, 7, 20000⟩ fr (h0V z) ⟨fI z, []⟩ (fun fr h _ => nextK (stV z) (nxV z sgV0) fr h) (koB qe.rs))
def fB : List (SB × Bool) := [(.cmp .gtr (.v 11) (.lit 2147483647), true)]
def bigV : Nat := callS cx0 0 noCall 7 (arV 2) (h0V 2) ⟨fB, []⟩ (endV (.b true))
def symW : Nat → SE
 | 0 => .v 450
 | i + 1 => .v (805 + 40 * i)
def thW (i : Nat) (z : Bool) : Sh := ⟨13, [.si .i64 (symW i)], .tup [tA (800 + 40 * i) (sv (800 + 40 * i)) (sv (801 + 40 * i)) (sv (802 + 40 * i)) (tv (803 + 40 * i)) (sv (804 + 40 * i)) (bif z then .i .i64 0 else sv (805 + 40 * i)) (sv (806 + 40 * i)) (sv (807 + 40 * i)) (tv (808 + 40 * i)) (tv (809 + 40 * i)) (sv (810 + 40 * i)) (sv (811 + 40 * i)) (sv (812 + 40 * i)) (sv (813 + 40 * i)), .i .i64 0]⟩
def chW (n e : Nat) : List Sh := match e with
 | 0 => (rng n).map (fun i => thW i (Nat.beq (i + 1) n))
 | 4 => (rng n).map (fun i => thW i false) ++ [twS (symW n)]
 | _ => (rng n).map (fun i => thW i false)
def fsW (n e : Nat) : List (SB × Bool) := (rng n).map (fun i => (.cmp .neq (symW i) (.lit 0), true)) ++ (match e with
 | 0 => []
 | 5 => []
 | e => tfs (symW n) e)
def hdV (n e : Nat) : V := bif Nat.beq e 0 && Nat.beq n 0 then .i .i64 0 else .si .i64 (.v 450)
def prE : V := .si .i64 (.v 21)
def chA (a : Nat) : List Sh := bif Nat.beq a 0 then [⟨11, [.si .i64 (.v 20)], .si .i64 (.v 301)⟩, ⟨12, [.si .i64 (.v 20)], .si .i64 (.v 302)⟩, ⟨21, [.si .i64 (.v 20)], .si .i64 (.v 303)⟩] else []
def chG (p : Nat) (n e : Nat) : List Sh := bif Nat.beq p 2 then [⟨15, [prE], hdV n e⟩] else []
def hgS : Sh := ⟨14, [], .si .i64 (.v 304)⟩
def chV (a p n e : Nat) : List Sh := chA a ++ (chG p n e ++ (hgS :: (chG p n e ++ (bif Nat.beq p 2 then chW n e else []))))
def fsA (a : Nat) : List (SB × Bool) := List.tail (tfs (.v 20) a)
def fsP (p : Nat) : List (SB × Bool) := match p with
 | 0 => [(.cmp .geq (.v 21) (.lit 0), false)]
 | 1 => [(.cmp .geq (.v 21) (.lit 0), true), (.cmp .lss (.v 21) (.lit 256), false)]
 | _ => []
def gtS (x y : SE) : SB × Bool := (.cmp .gtr (.op .sub .i64 x y) (.lit 200), false)
def addS (x : SE) (i : Nat) : SE := .op .add .i64 x (.v (9000 + i))
def stS0 (a i : Nat) (x : SE) : SE := bif Nat.beq a 0 then addS x i else x
def fsS (a p : Nat) : List (SB × Bool) :=
 let x0 : SE := .v 5
 let x1 := stS0 a 100 x0
 let x2 := stS0 a 101 x1
 let x3 := stS0 a 102 x2
 let i3 := bif Nat.beq a 0 then 103 else 100
 let x4 := bif Nat.beq p 2 then addS x3 i3 else x3
 let i4 := bif Nat.beq p 2 then Nat.succ i3 else i3
 [gtS x1 x0, gtS x2 x1, gtS x3 x2, gtS x4 x3, gtS (addS x4 i4) x4]
def fE (z : Nat) : List (SB × Bool) := [(bif Nat.beq z 0 then (.cmp .lss (.v 12) (.lit 0), false) else (.cmp .lss (.v 12) (.v 11), false))]
def fsV (a p n e : Nat) : List (SB × Bool) := fsA a ++ (fsP p ++ (fsS a p ++ (bif Nat.beq p 2 then fsW n e else [])))
def cxV (a p n e : Nat) : Cx := cxI (callT cx0 20) cx0 cP 100 (entS 100 (chV a p n e))
def gE (a p n e : Nat) : Ctx := ⟨callT (cxV a p n e) 20, 7, 20000⟩
def outV (z a p n e : Nat) : Nat := runJ (stV z) qe.x qe.z (koB qe.rs) (gE a p n e) 0 ⟨fE z ++ fsV a p n e, []⟩ []
theorem qce : cutX (tyOf Try.prog) dr7 Try.f7 = some qe := by kernel_rfl
theorem goV_ok : goV = 0 := by decide +kernel
theorem inV_ok : inV 0 = 0 ∧ inV 2 = 0 := by decide +kernel
theorem bigV_ok : bigV = 0 := by decide +kernel
def outA (a z : Nat) : Bool := Nat.beq (outV z a 0 0 0) 0 && Nat.beq (outV z a 1 0 0) 0 && Nat.beq (outV z a 2 34 5) 0 && allB (fun n => allB (fun e => Nat.beq (outV z a 2 n e) 0) (rng 5)) (rng 17)
end Go.Ev.X
end
