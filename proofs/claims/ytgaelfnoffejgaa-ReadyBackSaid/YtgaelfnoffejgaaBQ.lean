/-
 ReadyBack: its runs.
-/
import Derived.Test.YtgaelfnoffejgaaRA
import Derived.Test.YtgaelfnoffejgaaMO
import Derived.Test.YtgaelfnoffejgaaE6
set_option linter.unusedSimpArgs false
set_option linter.unusedVariables false
set_option maxRecDepth 100000
noncomputable section
namespace Go.Ev.X
open Go Go.Ev Go.Proofs
def qb : CutX := ⟨(.seqR (.ops [.op (some k1) none (.box 51 (.s k0)), .op (some k2) none (.mov (.c (.b false)))]) (.seqR (.ops [.op (some k16) none (.fad 0 (.s k1)), .op (some k17) none (.ld (.s k16)), .op (some k3) none (.mov (.s k17))]) (.seqR (.ops [.op (some k18) none (.fad 1 (.s k1)), .op (some k19) none (.ld (.s k18)), .op (some k4) none (.mov (.s k19))]) (.seqR (.ops [.op (some k20) none (.fad 2 (.s k1)), .op (some k21) none (.ld (.s k20)), .op (some k5) none (.mov (.s k21))]) (.seqR (.ops [.op (some k22) none (.fad 3 (.s k1)), .op (some k23) none (.ld (.s k22)), .op (some k6) none (.mov (.s k23))]) (.seqR (.seq (.ops [.op (some k24) none (.mov (.s k3)), .op (some k25) none (.lens (.s k24)), .op (some k26) none (.bin .gtr .num (.s k25) (.c (.i .i64 2147483647))), .op (some k27) none (.mov (.s k26)), .op (some k28) (some (k27, false)) (.mov (.s k4)), .op (some k29) (some (k27, false)) (.lens (.s k28)), .op (some k30) (some (k27, false)) (.bin .gtr .num (.s k29) (.c (.i .i64 2147483647))), .op (some k31) none (.pick (.s k27) (.c (.b true)) (.s k30))]) (.cond k31 (.seq (.ops [.op (some k2) none (.mov (.c (.b true)))]) .ret) .skip)) (.seqR (.ops [.call (some k32) none (.c (.fn 8 [] [])) [], .op (some k7) none (.mov (.s k32))]) (.seqR (.ops [.op (some k33) none (.mov (.s k3)), .call (some k34) none (.c (.fn 9 [] [])) [(.s k33)], .op (some k8) none (.mov (.s k34))]) (.seqR (.seq (.ops [.op (some k35) none (.mov (.s k8)), .op (some k36) none (.bin .eql .ptr (.s k35) (.c .nil))]) (.cond k36 (.seq (.ops [.op (some k2) none (.mov (.c (.b false)))]) .ret) .skip)) (.seqL (.seqR (.ops [.op (some k9) none (.mov (.c (.i .i64 0)))]) (.block 0 .hole)) (.seq (.ops [.op (some k72) none (.mov (.s k8)), .op (some k73) none (.nilc (.s k72)), .op (some k74) none (.fad 0 (.s k73)), .op (some k75) none (.ld (.s k74)), .call (some k76) none (.c (.fn 19 [] [])) [(.s k75), (.c (.i .i64 0)), (.c (.i .i64 2048))], .op (some k71) none (.mov (.s k76)), .op (some k77) none (.ext (.s k71) 0), .op (some k78) none (.ext (.s k71) 1), .op (some k10) none (.mov (.s k77)), .op (some k11) none (.mov (.s k78))]) (.seq (.ops [.op (some k12) none (.mov (.c (.i .i64 0)))]) (.seq (.seq (.ops [.op (some k79) none (.mov (.s k6))]) (.cond k79 (.seq (.qops [.op (some k80) none (.mov (.s k8)), .op (some k81) none (.nilc (.s k80)), .op (some k82) none (.fad 0 (.s k81)), .op (some k83) none (.ld (.s k82)), .op (some k84) none (.mov (.s k5)), .call (some k85) none (.c (.fn 10 [] [])) [(.s k84)]]) (.ops [.call (some k86) none (.c (.fn 21 [] [])) [(.s k83), (.s k85)], .op (some k12) none (.mov (.s k86))])) (.seq (.qops [.op (some k87) none (.mov (.s k8)), .op (some k88) none (.nilc (.s k87)), .op (some k89) none (.fad 0 (.s k88)), .op (some k90) none (.ld (.s k89)), .op (some k91) none (.mov (.s k5)), .call (some k92) none (.c (.fn 10 [] [])) [(.s k91)]]) (.ops [.call (some k93) none (.c (.fn 11 [] [])) [(.s k90), (.s k92)], .op (some k12) none (.mov (.s k93))])))) (.seq (.seq (.ops [.op (some k94) none (.mov (.s k12)), .op (some k95) none (.bin .eql .num (.s k94) (.c (.i .i64 0)))]) (.cond k95 (.seq (.seq (.qops [.op (some k96) none (.mov (.s k8)), .op (some k97) none (.nilc (.s k96)), .op (some k98) none (.fad 0 (.s k97)), .op (some k99) none (.ld (.s k98)), .op (some k100) none (.mov (.s k5)), .call (some k101) none (.c (.fn 10 [] [])) [(.s k100)]]) (.ops [.call (some k102) none (.c (.fn 12 [] [])) [(.s k99), (.s k101)], .op (some k12) none (.mov (.s k102))])) (.seq (.ops [.op (some k103) none (.mov (.s k12)), .op (some k104) none (.bin .neq .num (.s k103) (.c (.i .i64 0)))]) (.cond k104 (.seq (.ops [.op (some k2) none (.mov (.c (.b false)))]) .ret) .skip))) .skip)) (.seq (.ops [.op (some k106) none (.mov (.s k8)), .op (some k107) none (.nilc (.s k106)), .op (some k108) none (.fad 0 (.s k107)), .op (some k109) none (.ld (.s k108)), .call (some k110) none (.c (.fn 19 [] [])) [(.s k109), (.c (.i .i64 0)), (.c (.i .i64 2048))], .op (some k105) none (.mov (.s k110)), .op (some k111) none (.ext (.s k105) 0), .op (some k112) none (.ext (.s k105) 1), .op (some k13) none (.mov (.s k111)), .op (some k14) none (.mov (.s k112))]) (.seq (.ops [.op (some k113) none (.mov (.s k10)), .op (some k114) none (.mov (.s k13)), .call (some k115) none (.c (.fn 20 [] [])) [(.s k113), (.s k114)], .op (some k15) none (.mov (.s k115))]) (.seq (.ops [.op (some k116) none (.mov (.s k7)), .op (some k117) none (.mov (.s k116)), .op (some k118) (some (k117, true)) (.mov (.s k11)), .op (some k119) (some (k117, true)) (.bin .eql .num (.s k118) (.c (.i .i64 0))), .op (some k120) none (.pick (.s k117) (.s k119) (.c (.b false))), .op (some k121) none (.mov (.s k120)), .op (some k122) (some (k121, true)) (.mov (.s k14)), .op (some k123) (some (k121, true)) (.bin .eql .num (.s k122) (.c (.i .i64 0))), .op (some k124) none (.pick (.s k121) (.s k123) (.c (.b false))), .op (some k125) none (.mov (.s k124)), .op (some k126) (some (k125, true)) (.mov (.s k15)), .op (some k127) none (.pick (.s k125) (.s k126) (.c (.b false))), .op (some k2) none (.mov (.s k127))]) .ret))))))))))))))))), (.seq (.seq (.ops [.op (some k37) none (.mov (.s k9)), .op (some k38) none (.mov (.s k4)), .op (some k39) none (.lens (.s k38)), .op (some k40) none (.bin .lss .num (.s k37) (.s k39))]) (.cond k40 .skip (.exit 0))) (.seq (.block 1 (.seq (.ops [.op (some k43) none (.mov (.s k4)), .op (some k44) none (.mov (.s k9)), .op (some k45) none (.ixs 1 (.s k43) (.s k44)), .op (some k46) none (.ld (.s k45)), .op (some k47) none (.bin .rem .num (.s k46) (.c (.i .i64 2))), .op (some k48) none (.bin .eql .num (.s k47) (.c (.i .i64 0)))]) (.cond k48 (.seq (.qops [.op (some k49) none (.mov (.s k8)), .op (some k50) none (.nilc (.s k49)), .op (some k51) none (.fad 0 (.s k50)), .op (some k52) none (.ld (.s k51)), .op (some k53) none (.mov (.s k4)), .op (some k54) none (.mov (.s k9)), .op (some k55) none (.ixs 1 (.s k53) (.s k54)), .op (some k56) none (.ld (.s k55)), .op (some k57) none (.bin .quo .num (.s k56) (.c (.i .i64 2))), .call (some k58) none (.c (.fn 10 [] [])) [(.s k57)]]) (.ops [.call (some k59) none (.c (.fn 11 [] [])) [(.s k52), (.s k58)]])) (.seq (.qops [.op (some k60) none (.mov (.s k8)), .op (some k61) none (.nilc (.s k60)), .op (some k62) none (.fad 0 (.s k61)), .op (some k63) none (.ld (.s k62)), .op (some k64) none (.mov (.s k4)), .op (some k65) none (.mov (.s k9)), .op (some k66) none (.ixs 1 (.s k64) (.s k65)), .op (some k67) none (.ld (.s k66)), .op (some k68) none (.bin .quo .num (.s k67) (.c (.i .i64 2))), .call (some k69) none (.c (.fn 10 [] [])) [(.s k68)]]) (.ops [.call (some k70) none (.c (.fn 21 [] [])) [(.s k63), (.s k69)]]))))) (.ops [.op (some k41) none (.mov (.s k9)), .op (some k42) none (.bin .add .num (.s k41) (.c (.i .i64 1))), .op (some k9) none (.mov (.s k42))]))), [.tmp k2]⟩
def o1l (z : Nat) (l : List V) : O := match z with
 | 0 => .dead
 | z + 1 => .row 1 (z + 1) (.v 11) (.v 12) l
def hB (z j : Nat) : H := ⟨q9, q3, (((((PT.e : PT O).set q2 (o1l z (bif Nat.ble j 6 then [.si .i64 (.v 13)] else []))).set q4 (.oa 33 100 2048 13 .nil)).set q5 (.cells 98 [.sl q4 0 2048 2048, .si .i64 (.v 5)])).set q8 (.cells 32 [.ptr q5 0, .ptr q7 0]))⟩
def frB (z : Nat) : List (Ky × V) := [(k4, a1 z), (k5, .si .i64 (.v 20)), (k6, .sb (.v 0)), (k7, .b true), (k8, .ptr q8 0), (k9, .si .i64 (.v 12))]
def stB (z j : Nat) : GS := ⟨frB z, hB z j⟩
def nxB (σ : Sg) : List (Nat × Sg) := (rng 12).map fun j => (j + 1, σ)
def nxB0 (z : Nat) (σ : Sg) : List (Nat × Sg) := bif Nat.beq z 0 then (rng 6).map fun j => (j + 7, σ) else nxB σ
def cB (j : Nat) : Nat := Nat.mod (Nat.pred j) 3
def fnB (fr : Bool) : Nat := bif fr then 21 else 11
def atB (i c : Nat) : V := bif Nat.beq c 2 then .i .i64 1056 else .si .i64 (.v i)
def evB (fr : Bool) (c i k : Nat) : List Ent := match c with
 | 0 => [⟨fnB fr, [.si .i64 (.v i)], 101, .i .i64 0, .v k⟩]
 | 1 => [⟨fnB fr, [.si .i64 (.v i)], 101, .i .i64 120, .v k⟩]
 | _ => []
def oddB (j : Nat) : Bool := Nat.ble 4 j
def quoB : SE := .op .quo .i64 (.v 13) (.lit 2)
def psB (j : Nat) : List PEnt := [⟨10, [.si .i64 quoB], atB 300 (cB j)⟩]
def fB1 (j : Nat) : List (SB × Bool) := [(.cmp .lss (.v 12) (.v 11), true), (.cmp .eql (.op .rem .i64 (.v 13) (.lit 2)) (.lit 0), bif oddB j then false else true)]
def rowB (c : Nat) : Nat := bif Nat.beq c 2 then 100 else 101
def sgB (j : Nat) : Sg := sgL [(11, .v 11), (12, .op .add .i64 (.v 12) (.lit 1)), (5, bif Nat.beq (cB j) 2 then .v 5 else .op .add .i64 (.v 5) (.v 310)), (20, .v 20), (100100, .lit (.ofNat (rowB (cB j))))]
def sgB0 : Sg := sgL [(11, .v 11), (12, .lit 0), (5, .v 5), (20, .v 20), (100100, .lit 100)]
def cxBd (j : Nat) : Cx := cxM cx0 cP 100 (evB (oddB j) (cB j) 300 310) (psB j)
def gB (j : Nat) : Ctx := ⟨callT (cxBd j) 20, 5, 20000⟩
def goB (j : Nat) : Nat := runJ (stB 1) qb.x qb.z (koB qb.rs) (gB j) j ⟨fB1 j, []⟩ (nxB (sgB j))
def cE (e : Nat) : Nat := Nat.mod e 3
def fronE (e : Nat) : Bool := Nat.ble 3 e
def esB (e : Nat) : List Ent := evB (fronE e) (cE e) 301 320 ++ (bif Nat.beq (cE e) 0 then [⟨12, [.si .i64 (.v 301)], 102, .i .i64 0, .v 321⟩] else [])
def lastB (e : Nat) : Nat := match cE e with
 | 0 => 102
 | 1 => 101
 | _ => 100
def psBe (e : Nat) : List PEnt := [⟨10, [.si .i64 (.v 20)], atB 301 (cE e)⟩]
def fBe (z e : Nat) : List (SB × Bool) := [(bif Nat.beq z 0 then (.cmp .lss (.v 12) (.lit 0), false) else (.cmp .lss (.v 12) (.v 11), false)), (.v 0, fronE e)]
def cxBe (e : Nat) : Cx := cxW (cxM cx0 cP 100 (esB e) (psBe e)) 44 20 33 2048 [100, lastB e] [(100, lastB e)]
def gBe (e : Nat) : Ctx := ⟨callT (cxBe e) 20, 5, 20000⟩
def outB (z e : Nat) : Nat := runJ (stB z) qb.x qb.z (koB qb.rs) (gBe e) (7 + e) ⟨fBe z e, []⟩ []
def argB (b : Bool) (z : Nat) : List V := [.agg [a0 b, a1 z, .si .i64 (.v 20), .sb (.v 0)]]
def fI (b : Bool) (z : Nat) : List (SB × Bool) := (bif b then [] else [(.cmp .gtr (.v 1) (.lit 2147483647), false)]) ++ (bif Nat.beq z 0 then [] else [(.cmp .gtr (.v 11) (.lit 2147483647), false)])
def inBc (b : Bool) (z : Nat) : CallT := callAx (memo (mdM true b z) (callT cx0 20))
def inB (b : Bool) (z : Nat) : Nat := initFr (argB b z) (fun fr => zIn qb.z ⟨inBc b z, 5, 20000⟩ fr (hM0 false b z) ⟨fI b z, []⟩ (fun fr h _ => nextK (stB z) (nxB0 z sgB0) fr h) (koB qb.rs))
def fL0 : List (SB × Bool) := [(.cmp .gtr (.v 1) (.lit 2147483647), true)]
def fL1 (b : Bool) : List (SB × Bool) := (bif b then [] else [(.cmp .gtr (.v 1) (.lit 2147483647), false)]) ++ [(.cmp .gtr (.v 11) (.lit 2147483647), true)]
def bigB (b : Bool) (z : Nat) (fs : List (SB × Bool)) : Nat := callS cx0 0 noCall 5 (argB b z) (hM0 false b z) ⟨fs, []⟩ (endV (.b true))
theorem qcb : cutX (tyOf Try.prog) dr5 Try.f5 = some qb := by kernel_rfl
theorem goB_ok : allB (fun j => Nat.beq (goB (j + 1)) 0) (rng 6) = true := by decide +kernel
theorem outB_ok : allB (fun e => Nat.beq (outB 1 e) 0 && Nat.beq (outB 0 e) 0) (rng 6) = true := by decide +kernel
theorem inB_ok : allB (fun b => Nat.beq (inB b 0) 0 && Nat.beq (inB b 1) 0) bools = true := by decide +kernel
theorem bigB_ok : (bigB false 0 fL0 = 0 ∧ bigB false 1 fL0 = 0) ∧ (bigB false 1 (fL1 false) = 0 ∧ bigB true 1 (fL1 true) = 0) := by decide +kernel
end Go.Ev.X
end
