/-
 What both memories are in the beginning: the runs.
-/
import Derived.Test.YtgaelfnoffejgaaMBR
import Derived.Test.YtgaelfnoffejgaaEvCe
import Derived.Test.YtgaelfnoffejgaaE6
set_option linter.unusedSimpArgs false
set_option linter.unusedVariables false
set_option maxRecDepth 100000
noncomputable section
namespace Go.Ev.X
open Go Go.Ev Go.Proofs
def q1 : Ev.P := .h
def q2 : Ev.P := (.o .h)
def q3 : Ev.P := (.i .h)
def q4 : Ev.P := (.o (.o .h))
def q5 : Ev.P := (.i (.o .h))
def q6 : Ev.P := (.o (.i .h))
def q7 : Ev.P := (.i (.i .h))
def q8 : Ev.P := (.o (.o (.o .h)))
def q9 : Ev.P := (.i (.o (.o .h)))
def qm : CutX := ⟨(.seqR (.ops [.op (some k2) none (.mov (.c .nil))]) (.seqR (.ops [.call (some k10) none (.c (.fn 23 [] [])) [(.c (.i .i64 11))], .op (some k9) none (.mov (.s k10)), .op (some k11) none (.ext (.s k9) 0), .op (some k12) none (.ext (.s k9) 1), .op (some k3) none (.mov (.s k11)), .op (some k4) none (.mov (.s k12))]) (.seqR (.ops [.call (some k14) none (.c (.fn 27 [] [])) [(.c (.i .i64 11))], .op (some k13) none (.mov (.s k14)), .op (some k15) none (.ext (.s k13) 0), .op (some k16) none (.ext (.s k13) 1), .op (some k5) none (.mov (.s k15)), .op (some k6) none (.mov (.s k16))]) (.seqR (.seq (.ops [.op (some k17) none (.mov (.s k3)), .op (some k18) none (.bin .eql .ptr (.s k17) (.c .nil)), .op (some k19) none (.mov (.s k18)), .op (some k20) (some (k19, false)) (.mov (.s k5)), .op (some k21) (some (k19, false)) (.bin .eql .ptr (.s k20) (.c .nil)), .op (some k22) none (.pick (.s k19) (.c (.b true)) (.s k21)), .op (some k23) none (.mov (.s k22)), .op (some k24) (some (k23, false)) (.mov (.s k4)), .op (some k25) (some (k23, false)) (.bin .neq .num (.s k24) (.c (.i .i64 0))), .op (some k26) none (.pick (.s k23) (.c (.b true)) (.s k25)), .op (some k27) none (.mov (.s k26)), .op (some k28) (some (k27, false)) (.mov (.s k6)), .op (some k29) (some (k27, false)) (.bin .neq .num (.s k28) (.c (.i .i64 0))), .op (some k30) none (.pick (.s k27) (.c (.b true)) (.s k29))]) (.cond k30 (.seq (.ops [.op (some k2) none (.mov (.c .nil))]) .ret) .skip)) (.seqL (.seqR (.ops [.op (some k7) none (.mov (.c (.i .i64 0)))]) (.block 0 .hole)) (.seq (.ops [.op (some k62) none (.mov (.s k3)), .op (some k63) none (.mov (.s k5)), .op (some k64) none (.agg [.nil, .nil] [(0, 1, (.s k62)), (1, 1, (.s k63))]), .op (some k65) none (.box 32 (.s k64)), .op (some k2) none (.mov (.s k65))]) .ret)))))), (.seq (.seq (.ops [.op (some k31) none (.mov (.s k7)), .op (some k32) none (.bin .lss .num (.s k31) (.c (.i .i64 8)))]) (.cond k32 .skip (.exit 0))) (.seq (.block 1 (.seq (.ops [.op (some k35) none (.agg [(.i .i64 0), (.i .i64 0), (.i .i64 0), (.b false), (.i .i64 0), (.i .i64 0), (.i .i64 0), (.i .i64 0), (.b false), (.b false), (.i .i64 0), (.i .i64 0), (.i .i64 0), (.i .i64 0), (.i .u64 0), (.i .u64 0), (.i .u64 0), (.i .u64 0), (.i .u64 0), (.i .u64 0), (.i .u64 0), (.i .u64 0), (.i .u64 0), (.i .u64 0), (.i .u64 0), (.i .u64 0), (.i .u64 0), (.i .u64 0), (.i .u64 0), (.i .u64 0)] [(0, 1, (.c (.i .i64 1))), (2, 1, (.c (.i .i64 5)))]), .op (some k8) none (.new 36 [(.i .i64 0), (.i .i64 0), (.i .i64 0), (.b false), (.i .i64 0), (.i .i64 0), (.i .i64 0), (.i .i64 0), (.b false), (.b false), (.i .i64 0), (.i .i64 0), (.i .i64 0), (.i .i64 0), (.i .u64 0), (.i .u64 0), (.i .u64 0), (.i .u64 0), (.i .u64 0), (.i .u64 0), (.i .u64 0), (.i .u64 0), (.i .u64 0), (.i .u64 0), (.i .u64 0), (.i .u64 0), (.i .u64 0), (.i .u64 0), (.i .u64 0), (.i .u64 0)]), .op none none (.st 30 (.s k8) (.s k35))]) (.seq (.seq (.ops [.op (some k36) none (.mov (.s k7)), .op (some k37) none (.mov (.s k0)), .op (some k38) none (.lens (.s k37)), .op (some k39) none (.bin .lss .num (.s k36) (.s k38))]) (.cond k39 (.ops [.op (some k40) none (.mov (.s k0)), .op (some k41) none (.mov (.s k7)), .op (some k42) none (.ixs 1 (.s k40) (.s k41)), .op (some k43) none (.ld (.s k42)), .call (some k44) none (.c (.fn 17 [] [])) [(.s k43)], .op (some k45) none (.fad 1 (.s k8)), .op none none (.st 1 (.s k45) (.s k44))]) .skip)) (.seq (.seq (.qops [.op (some k46) none (.mov (.s k3)), .op (some k47) none (.mov (.s k7)), .call (some k48) none (.c (.fn 10 [] [])) [(.s k47)], .op (some k49) none (.ldn 30 (.s k8))]) (.ops [.call (some k50) none (.c (.fn 28 [] [])) [(.s k46), (.s k48), (.s k49)], .op (some k4) none (.mov (.s k50))])) (.seq (.seq (.qops [.op (some k51) none (.mov (.s k5)), .op (some k52) none (.mov (.s k7)), .call (some k53) none (.c (.fn 10 [] [])) [(.s k52)], .op (some k54) none (.ldn 30 (.s k8))]) (.ops [.call (some k55) none (.c (.fn 29 [] [])) [(.s k51), (.s k53), (.s k54)], .op (some k6) none (.mov (.s k55))])) (.seq (.ops [.op (some k56) none (.mov (.s k4)), .op (some k57) none (.bin .neq .num (.s k56) (.c (.i .i64 0))), .op (some k58) none (.mov (.s k57)), .op (some k59) (some (k58, false)) (.mov (.s k6)), .op (some k60) (some (k58, false)) (.bin .neq .num (.s k59) (.c (.i .i64 0))), .op (some k61) none (.pick (.s k58) (.c (.b true)) (.s k60))]) (.cond k61 (.seq (.ops [.op (some k2) none (.mov (.c .nil))]) .ret) .skip))))))) (.ops [.op (some k33) none (.mov (.s k7)), .op (some k34) none (.bin .add .num (.s k33) (.c (.i .i64 1))), .op (some k7) none (.mov (.s k34))]))), [.tmp k2]⟩
def tcM (i : Nat) : Nat := 1024 + 64 * i
def tM0 (p : V) : V := .agg [.i .i64 1, p, .i .i64 5, .b false, .i .i64 0, .i .i64 0, .i .i64 0, .i .i64 0, .b false, .b false, .i .i64 0, .i .i64 0, .i .i64 0, .i .i64 0, .i .u64 0, .i .u64 0, .i .u64 0, .i .u64 0, .i .u64 0, .i .u64 0, .i .u64 0, .i .u64 0, .i .u64 0, .i .u64 0, .i .u64 0, .i .u64 0, .i .u64 0, .i .u64 0, .i .u64 0, .i .u64 0]
def hasM (j : Nat) : Bool := Nat.beq (Nat.mod j 2) 1
def prV (j : Nat) : V := bif hasM j then .si .i64 (.v 4) else .i .i64 0
def a0 (b : Bool) : V := bif b then .snil else .fs q1 0
def o0 (b : Bool) (l : List V) : O := bif b then .dead else .row 0 1 (.v 1) (.v 2) l
def o1 (z : Nat) : O := match z with
 | 0 => .dead
 | z + 1 => .row 1 (z + 1) (.v 11) (.v 12) []
def a1 (z : Nat) : V := bif Nat.beq z 0 then .snil else .fs q2 1
def n3 (x : Bool) : Ev.P := bif x then q4 else q3
def n4 (x : Bool) : Ev.P := bif x then q5 else q4
def n5 (x : Bool) : Ev.P := bif x then q6 else q5
def n6 (x : Bool) : Ev.P := bif x then q7 else q6
def n7 (x : Bool) : Ev.P := bif x then q8 else q7
def n8 (x : Bool) : Ev.P := bif x then q9 else q8
def bsM (x b : Bool) (z : Nat) (l : List V) : PT O := bif x then (((PT.e : PT O).set q1 (o0 b l)).set q2 (o1 z)).set q3 (.cells 51 [a0 b, a1 z, .si .i64 (.v 20), .sb (.v 0)]) else ((PT.e : PT O).set q1 (o0 b l)).set q2 (o1 z)
def hM (x b : Bool) (z j : Nat) : H := ⟨n7 x, n3 x, ((((bsM x b z (bif hasM j then [.si .i64 (.v 3)] else [])).set (n3 x) (.oa 33 100 2048 13 .nil)).set (n4 x) (.cells 98 [.sl (n3 x) 0 2048 2048, .si .i64 (.v 5)])).set (n5 x) (.oa 33 200 2048 13 .nil)).set (n6 x) (.cells 96 [.sl (n5 x) 0 2048 2048, .si .i64 (.v 6)])⟩
def frM (x b : Bool) : List (Ky × V) := [(k0, a0 b), (k3, .ptr (n4 x) 0), (k5, .ptr (n6 x) 0), (k7, .si .i64 (.v 2))]
def stM (x b : Bool) (z j : Nat) : GS := ⟨frM x b, hM x b z j⟩
def nxM (i : Nat) (σ : Sg) : List (Nat × Sg) := bif Nat.beq i 8 then [(16, σ)] else [(2 * i, σ), (2 * i + 1, σ)]
def sgM : Sg := sgL [(1, .v 1), (20, .v 20), (11, .v 11), (2, .op .add .i64 (.v 2) (.lit 1)), (5, .op .add .i64 (.v 5) (.v 310)), (6, .op .add .i64 (.v 6) (.v 311)), (100100, .lit 101), (100200, .lit 201)]
def sgM0 : Sg := sgL [(1, .v 1), (20, .v 20), (11, .v 11), (2, .lit 0), (5, .lit 0), (6, .lit 0), (100100, .lit 150), (100200, .lit 250)]
def sgMF : Sg := sgL [(1, .v 1), (20, .v 20), (11, .v 11), (5, .v 5), (6, .v 6), (100100, .lit 100), (100200, .lit 200)]
def esMp (j : Nat) : List Ent := [⟨28, [.i .i64 (.ofNat (tcM (Nat.div j 2))), tM0 (prV j)], 101, .i .i64 0, .v 310⟩]
def esMr (j : Nat) : List Ent := [⟨29, [.i .i64 (.ofNat (tcM (Nat.div j 2))), tM0 (prV j)], 201, .i .i64 0, .v 311⟩]
def psM (j : Nat) : List PEnt := ⟨10, [.si .i64 (.v 2)], .i .i64 (.ofNat (tcM (Nat.div j 2)))⟩ :: (bif hasM j then [⟨17, [.si .i64 (.v 3)], .si .i64 (.v 4)⟩] else [])
def fM (b : Bool) (j : Nat) : List (SB × Bool) := (.cmp .lss (.v 2) (.lit 8), true) :: (bif b then [(.cmp .lss (.v 2) (.lit 0), false)] else [(.cmp .lss (.v 2) (.v 1), hasM j)])
def cxMd (j : Nat) : Cx := cxM (cxM cx0 cP 100 (esMp j) (psM j)) cR 200 (esMr j) []
def gM (j : Nat) : Ctx := ⟨callT (cxMd j) 20, 9, 20000⟩
def gM0 : Ctx := ⟨callT cx0 20, 9, 20000⟩
def goM (x b : Bool) (z j : Nat) : Nat := runZ (stM x b z) qm.x (zOut qm.z (gM j) ko1) (gM j) j ⟨fM b j, []⟩ (nxM (Nat.div j 2 + 1) sgM)
def tMF (x b : Bool) (z : Nat) : PT O := (((((bsM x b z []).set (n3 x) (.oa 33 100 2048 13 .nil)).set (n4 x) (.cells 98 [.sl (n3 x) 0 2048 2048, .si .i64 (.v 5)])).set (n5 x) (.oa 33 200 2048 13 .nil)).set (n6 x) (.cells 96 [.sl (n5 x) 0 2048 2048, .si .i64 (.v 6)])).set (n7 x) (.cells 32 [.ptr (n4 x) 0, .ptr (n6 x) 0])
def hM0 (x b : Bool) (z : Nat) : H := ⟨n3 x, q3, bsM x b z []⟩
def hMF (x b : Bool) (z : Nat) : H := ⟨n8 x, q3, tMF x b z⟩
def hM0r (x b : Bool) (z : Nat) : H := ⟨n3 x, n3 x, bsM x b z []⟩
def hMFr (x b : Bool) (z : Nat) : H := ⟨n8 x, n3 x, tMF x b z⟩
def outM (x b : Bool) (z : Nat) : Nat := runZ (stM x b z) qm.x (zOut qm.z gM0 (koM qm.rs (.ptr (n7 x) 0) (hMFr x b z) sgMF)) gM0 16 ⟨[(.cmp .lss (.v 2) (.lit 8), false)], []⟩ []
def rowsB (h : H) : Bool := hc h (fun _ _ t => ptAll (fun _ o => match o with
 | .row q z N I l => vlBeq l [] || (Nat.beq q 0 && Nat.beq z 1 && SE.beq I (.v 2) && vlBeq l [.si .i64 (.v 3)])
 | _ => true) (fun p => p) t)
def inM0 (x : Bool) : CallT := asRow 27 (n5 x) (.arr 33 2048 13 (.i .u64 0) .nil) (.oa 33 250 2048 13 .nil) (asRow 23 (n3 x) (.arr 33 2048 13 (.i .u64 0) .nil) (.oa 33 150 2048 13 .nil) (callT cx0 20))
def inM (x b : Bool) (z : Nat) : Nat := initFr [a0 b] (fun fr => zIn qm.z ⟨inM0 x, 9, 20000⟩ fr (hM0r x b z) ⟨[], []⟩ (fun fr h _ => nextK (stM x b z) (nxM 0 sgM0) fr h) ko1)
theorem qcm : cutX (tyOf Try.prog) dr9 Try.f9 = some qm := by kernel_rfl
def zOk (x b : Bool) (z : Nat) : Bool := allB (fun j => bif b && hasM j then true else Nat.beq (goM x b z j) 0) (rng 16) && Nat.beq (outM x b z) 0 && Nat.beq (inM x b z) 0 && endCk (hM0 x b z) (hMF x b z) && allB (fun j => rowsB (hM x b z j) && (bif hasM j then true else rowU (hM x b z j))) (rng 17) && rowU (hMFr x b z)
theorem zx_ok : allB (fun b => zOk true b 0 && zOk true b 1) bools = true := by decide +kernel
end Go.Ev.X
end
