/-
 ReadyRound: its runs.
-/
import Derived.Test.YtgaelfnoffejgaaRA
import Derived.Test.YtgaelfnoffejgaaMO
import Derived.Test.YtgaelfnoffejgaaE6
set_option linter.unusedSimpArgs false
set_option linter.unusedVariables false
set_option maxRecDepth 100000
noncomputable section
namespace Go.Ev.X
open Go Go.Ev Go.Proofs
def qr : CutX := ⟨(.seqR (.ops [.op (some k6) none (.mov (.c (.b false)))]) (.seqR (.seq (.ops [.op (some k22) none (.mov (.s k0)), .op (some k23) none (.lens (.s k22)), .op (some k24) none (.bin .gtr .num (.s k23) (.c (.i .i64 2147483647))), .op (some k25) none (.mov (.s k24)), .op (some k26) (some (k25, false)) (.mov (.s k1)), .op (some k27) (some (k25, false)) (.lens (.s k26)), .op (some k28) (some (k25, false)) (.bin .gtr .num (.s k27) (.c (.i .i64 2147483647))), .op (some k29) none (.pick (.s k25) (.c (.b true)) (.s k28))]) (.cond k29 (.seq (.ops [.op (some k6) none (.mov (.c (.b true)))]) .ret) .skip)) (.seqR (.ops [.call (some k30) none (.c (.fn 8 [] [])) [], .op (some k7) none (.mov (.s k30))]) (.seqR (.ops [.op (some k31) none (.mov (.s k0)), .call (some k32) none (.c (.fn 9 [] [])) [(.s k31)], .op (some k8) none (.mov (.s k32))]) (.seqR (.seq (.ops [.op (some k33) none (.mov (.s k8)), .op (some k34) none (.bin .eql .ptr (.s k33) (.c .nil))]) (.cond k34 (.seq (.ops [.op (some k6) none (.mov (.c (.b false)))]) .ret) .skip)) (.seqL (.seqR (.ops [.op (some k9) none (.mov (.c (.i .i64 0)))]) (.block 0 .hole)) (.seq (.ops [.op (some k51) none (.mov (.s k2)), .call (some k52) none (.c (.fn 17 [] [])) [(.s k51)], .op (some k10) none (.mov (.s k52))]) (.seq (.ops [.op (some k54) none (.mov (.s k8)), .op (some k55) none (.nilc (.s k54)), .op (some k56) none (.fad 0 (.s k55)), .op (some k57) none (.ld (.s k56)), .op (some k58) none (.mov (.s k10)), .call (some k59) none (.c (.fn 18 [] [])) [(.s k57), (.s k58)], .op (some k53) none (.mov (.s k59)), .op (some k60) none (.ext (.s k53) 0), .op (some k61) none (.ext (.s k53) 1), .op (some k11) none (.mov (.s k60)), .op (some k12) none (.mov (.s k61))]) (.seq (.ops [.op (some k63) none (.mov (.s k8)), .op (some k64) none (.nilc (.s k63)), .op (some k65) none (.fad 0 (.s k64)), .op (some k66) none (.ld (.s k65)), .call (some k67) none (.c (.fn 19 [] [])) [(.s k66), (.c (.i .i64 0)), (.c (.i .i64 2048))], .op (some k62) none (.mov (.s k67)), .op (some k68) none (.ext (.s k62) 0), .op (some k69) none (.ext (.s k62) 1), .op (some k13) none (.mov (.s k68)), .op (some k14) none (.mov (.s k69))]) (.seq (.seq (.ops [.op (some k15) none (.mov (.c (.i .i64 0)))]) (.block 2 (.loop (.seq (.seq (.ops [.op (some k70) none (.mov (.s k15)), .op (some k71) none (.mov (.s k11)), .op (some k72) none (.lens (.s k71)), .op (some k73) none (.bin .lss .num (.s k70) (.s k72))]) (.cond k73 .skip (.exit 2))) (.seq (.block 3 (.seq (.ops [.op (some k76) none (.mov (.s k8)), .op (some k77) none (.nilc (.s k76)), .op (some k78) none (.fad 0 (.s k77)), .op (some k79) none (.ld (.s k78)), .op (some k80) none (.mov (.s k10)), .call (some k81) none (.c (.fn 15 [] [])) [(.s k79), (.s k80)], .op (some k16) none (.mov (.s k81))]) (.seq (.ops [.op (some k82) none (.mov (.s k8)), .op (some k83) none (.nilc (.s k82)), .op (some k84) none (.fad 0 (.s k83)), .op (some k85) none (.ld (.s k84)), .op (some k86) none (.mov (.s k16)), .call (some k87) none (.c (.fn 12 [] [])) [(.s k85), (.s k86)], .op (some k17) none (.mov (.s k87))]) (.seq (.ops [.op (some k88) none (.mov (.s k8)), .op (some k89) none (.nilc (.s k88)), .op (some k90) none (.fad 0 (.s k89)), .op (some k91) none (.ld (.s k90)), .op (some k92) none (.mov (.s k16)), .call (some k93) none (.c (.fn 11 [] [])) [(.s k91), (.s k92)], .op (some k18) none (.mov (.s k93))]) (.seq (.ops [.op (some k94) none (.mov (.s k16)), .op (some k95) none (.mov (.s k11)), .op (some k96) none (.mov (.s k15)), .op (some k97) none (.ixs 1 (.s k95) (.s k96)), .op (some k98) none (.ld (.s k97)), .op (some k99) none (.bin .neq .num (.s k94) (.s k98)), .op (some k100) none (.mov (.s k99)), .op (some k101) (some (k100, false)) (.mov (.s k17)), .op (some k102) (some (k100, false)) (.bin .neq .num (.s k101) (.c (.i .i64 0))), .op (some k103) none (.pick (.s k100) (.c (.b true)) (.s k102)), .op (some k104) none (.mov (.s k103)), .op (some k105) (some (k104, false)) (.mov (.s k18)), .op (some k106) (some (k104, false)) (.bin .neq .num (.s k105) (.c (.i .i64 0))), .op (some k107) none (.pick (.s k104) (.c (.b true)) (.s k106))]) (.cond k107 (.seq (.ops [.op (some k6) none (.mov (.c (.b false)))]) .ret) .skip)))))) (.ops [.op (some k74) none (.mov (.s k15)), .op (some k75) none (.bin .add .num (.s k74) (.c (.i .i64 1))), .op (some k15) none (.mov (.s k75))])))))) (.seq (.ops [.op (some k109) none (.mov (.s k8)), .op (some k110) none (.nilc (.s k109)), .op (some k111) none (.fad 0 (.s k110)), .op (some k112) none (.ld (.s k111)), .call (some k113) none (.c (.fn 19 [] [])) [(.s k112), (.c (.i .i64 0)), (.c (.i .i64 2048))], .op (some k108) none (.mov (.s k113)), .op (some k114) none (.ext (.s k108) 0), .op (some k115) none (.ext (.s k108) 1), .op (some k19) none (.mov (.s k114)), .op (some k20) none (.mov (.s k115))]) (.seq (.ops [.op (some k116) none (.mov (.s k13)), .op (some k117) none (.mov (.s k19)), .call (some k118) none (.c (.fn 20 [] [])) [(.s k116), (.s k117)], .op (some k21) none (.mov (.s k118))]) (.seq (.ops [.op (some k119) none (.mov (.s k7)), .op (some k120) none (.mov (.s k119)), .op (some k121) (some (k120, true)) (.mov (.s k12)), .op (some k122) (some (k120, true)) (.bin .eql .num (.s k121) (.c (.i .i64 0))), .op (some k123) none (.pick (.s k120) (.s k122) (.c (.b false))), .op (some k124) none (.mov (.s k123)), .op (some k125) (some (k124, true)) (.mov (.s k14)), .op (some k126) (some (k124, true)) (.bin .eql .num (.s k125) (.c (.i .i64 0))), .op (some k127) none (.pick (.s k124) (.s k126) (.c (.b false))), .op (some k128) none (.mov (.s k127)), .op (some k129) (some (k128, true)) (.mov (.s k20)), .op (some k130) (some (k128, true)) (.bin .eql .num (.s k129) (.c (.i .i64 0))), .op (some k131) none (.pick (.s k128) (.s k130) (.c (.b false))), .op (some k132) none (.mov (.s k131)), .op (some k133) (some (k132, true)) (.mov (.s k21)), .op (some k134) none (.pick (.s k132) (.s k133) (.c (.b false))), .op (some k6) none (.mov (.s k134))]) .ret))))))))))))), (.seq (.seq (.ops [.op (some k35) none (.mov (.s k9)), .op (some k36) none (.mov (.s k1)), .op (some k37) none (.lens (.s k36)), .op (some k38) none (.bin .lss .num (.s k35) (.s k37))]) (.cond k38 .skip (.exit 0))) (.seq (.block 1 (.seq (.qops [.op (some k41) none (.mov (.s k8)), .op (some k42) none (.nilc (.s k41)), .op (some k43) none (.fad 0 (.s k42)), .op (some k44) none (.ld (.s k43)), .op (some k45) none (.mov (.s k1)), .op (some k46) none (.mov (.s k9)), .op (some k47) none (.ixs 1 (.s k45) (.s k46)), .op (some k48) none (.ld (.s k47)), .call (some k49) none (.c (.fn 10 [] [])) [(.s k48)]]) (.ops [.call (some k50) none (.c (.fn 11 [] [])) [(.s k44), (.s k49)]]))) (.ops [.op (some k39) none (.mov (.s k9)), .op (some k40) none (.bin .add .num (.s k39) (.c (.i .i64 1))), .op (some k9) none (.mov (.s k40))]))), [.tmp k6]⟩
def a1 (z : Nat) : V := bif Nat.beq z 0 then .snil else .fs q2 1
def o1l (z : Nat) (l : List V) : O := match z with
 | 0 => .dead
 | z + 1 => .row 1 (z + 1) (.v 11) (.v 12) l
def hR (z j : Nat) : H := ⟨q8, q3, (((((PT.e : PT O).set q2 (o1l z (bif Nat.ble j 3 then [.si .i64 (.v 13)] else []))).set q3 (.oa 33 100 2048 13 .nil)).set q4 (.cells 98 [.sl q3 0 2048 2048, .si .i64 (.v 5)])).set q7 (.cells 32 [.ptr q4 0, .ptr q6 0]))⟩
def frR (z : Nat) : List (Ky × V) := [(k1, a1 z), (k2, .si .i64 (.v 20)), (k7, .b true), (k8, .ptr q7 0), (k9, .si .i64 (.v 12))]
def stR (z j : Nat) : GS := ⟨frR z, hR z j⟩
def nxR (σ : Sg) : List (Nat × Sg) := (rng 12).map fun j => (j + 1, σ)
def nxR0 (z : Nat) (σ : Sg) : List (Nat × Sg) := bif Nat.beq z 0 then (rng 9).map fun j => (j + 4, σ) else nxR σ
def esR (j : Nat) : List Ent := match j with
 | 1 => [⟨11, [.si .i64 (.v 300)], 101, .i .i64 0, .v 310⟩]
 | 2 => [⟨11, [.si .i64 (.v 300)], 101, .i .i64 120, .v 310⟩]
 | _ => []
def psR (j : Nat) : List PEnt := bif Nat.ble j 2 then [⟨10, [.si .i64 (.v 13)], .si .i64 (.v 300)⟩] else [⟨10, [.si .i64 (.v 13)], .i .i64 1056⟩]
def fR1 : List (SB × Bool) := [(.cmp .lss (.v 12) (.v 11), true)]
def rowR (j : Nat) : Nat := bif Nat.ble j 2 then 101 else 100
def sgR (j : Nat) : Sg := sgL [(11, .v 11), (12, .op .add .i64 (.v 12) (.lit 1)), (5, bif Nat.ble j 2 then .op .add .i64 (.v 5) (.v 310) else .v 5), (20, .v 20), (100100, .lit (.ofNat (rowR j)))]
def sgR0 : Sg := sgL [(11, .v 11), (12, .lit 0), (5, .v 5), (20, .v 20), (100100, .lit 100)]
def cxRd (j : Nat) : Cx := cxM cx0 cP 100 (esR j) (psR j)
def gR (j : Nat) : Ctx := ⟨callT (cxRd j) 20, 4, 20000⟩
def goR (j : Nat) : Nat := runJ (stR 1) qr.x qr.z (koB qr.rs) (gR j) j ⟨fR1, []⟩ (nxR (sgR j))
def symP : Nat → SE
 | 0 => .v 450
 | i + 1 => .v (805 + 40 * i)
def thrQ (n i : Nat) : Ent := ⟨13, [.si .i64 (symP i)], 102 + i, .tup [tA (800 + 40 * i) (sv (800 + 40 * i)) (sv (801 + 40 * i)) (sv (802 + 40 * i)) (tv (803 + 40 * i)) (sv (804 + 40 * i)) (bif Nat.beq (i + 1) n then .i .i64 0 else sv (805 + 40 * i)) (sv (806 + 40 * i)) (sv (807 + 40 * i)) (tv (808 + 40 * i)) (tv (809 + 40 * i)) (sv (810 + 40 * i)) (sv (811 + 40 * i)) (sv (812 + 40 * i)) (sv (813 + 40 * i)), .i .i64 0], .v (325 + i)⟩
def rotQ (n i : Nat) : List Ent := [⟨15, [.si .i64 (.v 301)], 102 + n + 3 * i, .si .i64 (symP i), .v (340 + 3 * i)⟩, ⟨12, [.si .i64 (symP i)], 103 + n + 3 * i, .i .i64 0, .v (341 + 3 * i)⟩, ⟨11, [.si .i64 (symP i)], 104 + n + 3 * i, .i .i64 0, .v (342 + 3 * i)⟩]
def rotsQ (n : Nat) : Nat → Nat → List Ent
 | _, 0 => []
 | i, m + 1 => rotQ n i ++ rotsQ n (i + 1) m
def esQ (n : Nat) : List Ent := ⟨15, [.si .i64 (.v 301)], 101, bif Nat.beq n 0 then .i .i64 0 else .si .i64 (.v 450), .v 320⟩ :: ((rng n).map (thrQ n) ++ rotsQ n 0 n)
def psQ : List PEnt := [⟨17, [.si .i64 (.v 20)], .si .i64 (.v 301)⟩]
def fQ (z n : Nat) : List (SB × Bool) := (bif Nat.beq z 0 then (.cmp .lss (.v 12) (.lit 0), false) else (.cmp .lss (.v 12) (.v 11), false)) :: (.cmp .lss (.v 301) (.lit 0), false) :: (.cmp .geq (.v 301) (.lit 0), true) :: (.cmp .lss (.v 301) (.lit 256), true) :: (.cmp .geq (.v 301) (.lit 256), false) :: (.cmp .gtr (.v 301) (.lit 255), false) ::
 ((rng n).map (fun i => (.cmp .neq (symP i) (.lit 0), true)) ++ (rng n).map (fun i => (.cmp .neq (symP i) (symP i), false)))
def cxQ (n : Nat) : Cx := cxW (cxM cx0 cP 100 (esQ n) psQ) 44 20 33 2048 [101 + n, 101 + 4 * n] [(101 + n, 101 + 4 * n)]
def gQ (n : Nat) : Ctx := ⟨callT (cxQ n) 20, 4, 20000⟩
def outR (z n : Nat) : Nat := runJ (stR z) qr.x qr.z (koB qr.rs) (gQ n) (4 + n) ⟨fQ z n, []⟩ []
def fI (b : Bool) (z : Nat) : List (SB × Bool) := (bif b then [] else [(.cmp .gtr (.v 1) (.lit 2147483647), false)]) ++ (bif Nat.beq z 0 then [] else [(.cmp .gtr (.v 11) (.lit 2147483647), false)])
def inRc (b : Bool) (z : Nat) : CallT := callAx (memo (mdM b z) (callT cx0 20))
def inR (b : Bool) (z : Nat) : Nat := initFr [a0 b, a1 z, .si .i64 (.v 20)] (fun fr => zIn qr.z ⟨inRc b z, 4, 20000⟩ fr (hM0 b z) ⟨fI b z, []⟩ (fun fr h _ => nextK (stR z) (nxR0 z sgR0) fr h) (koB qr.rs))
def fB0 : List (SB × Bool) := [(.cmp .gtr (.v 1) (.lit 2147483647), true)]
def fB1 (b : Bool) : List (SB × Bool) := (bif b then [] else [(.cmp .gtr (.v 1) (.lit 2147483647), false)]) ++ [(.cmp .gtr (.v 11) (.lit 2147483647), true)]
def bigR (b : Bool) (z : Nat) (fs : List (SB × Bool)) : Nat := callS cx0 0 noCall 4 [a0 b, a1 z, .si .i64 (.v 20)] (hM0 b z) ⟨fs, []⟩ (endV (.b true))
theorem qcr : cutX (tyOf Try.prog) dr4 Try.f4 = some qr := by kernel_rfl
theorem goR_ok : allB (fun j => Nat.beq (goR (j + 1)) 0) (rng 3) = true := by decide +kernel
theorem outR_ok : allB (fun n => Nat.beq (outR 1 n) 0 && Nat.beq (outR 0 n) 0) (rng 9) = true := by decide +kernel
theorem inR_ok : allB (fun b => Nat.beq (inR b 0) 0 && Nat.beq (inR b 1) 0) bools = true := by decide +kernel
theorem bigR_ok : (bigR false 0 fB0 = 0 ∧ bigR false 1 fB0 = 0) ∧ (bigR false 1 (fB1 false) = 0 ∧ bigR true 1 (fB1 true) = 0) := by decide +kernel
end Go.Ev.X
end
