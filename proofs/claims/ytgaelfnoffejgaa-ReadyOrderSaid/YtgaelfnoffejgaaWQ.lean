/-
 ReadyOrder: its runs (definitions).
-/
import Derived.Test.YtgaelfnoffejgaaRA
import Derived.Test.YtgaelfnoffejgaaMMo
import Derived.Test.YtgaelfnoffejgaaEvG4
set_option linter.unusedSimpArgs false
set_option linter.unusedVariables false
set_option maxRecDepth 100000
noncomputable section
namespace Go.Ev.X
open Go Go.Ev Go.Proofs
def qo : Cut2 := ⟨(.seqR (.ops [.op (some k4) none (.mov (.c (.b false)))]) (.seqR (.seq (.ops [.op (some k22) none (.mov (.s k0)), .op (some k23) none (.lens (.s k22)), .op (some k24) none (.bin .gtr .num (.s k23) (.c (.i .i64 2147483647))), .op (some k25) none (.mov (.s k24)), .op (some k26) (some (k25, false)) (.mov (.s k1)), .op (some k27) (some (k25, false)) (.lens (.s k26)), .op (some k28) (some (k25, false)) (.bin .gtr .num (.s k27) (.c (.i .i64 2147483647))), .op (some k29) none (.pick (.s k25) (.c (.b true)) (.s k28))]) (.cond k29 (.seq (.ops [.op (some k4) none (.mov (.c (.b true)))]) .ret) .skip)) (.seqR (.ops [.call (some k30) none (.c (.fn 8 [] [])) [], .op (some k5) none (.mov (.s k30))]) (.seqR (.ops [.op (some k31) none (.mov (.s k0)), .call (some k32) none (.c (.fn 9 [] [])) [(.s k31)], .op (some k6) none (.mov (.s k32))]) (.seqR (.seq (.ops [.op (some k33) none (.mov (.s k6)), .op (some k34) none (.bin .eql .ptr (.s k33) (.c .nil))]) (.cond k34 (.seq (.ops [.op (some k4) none (.mov (.c (.b false)))]) .ret) .skip)) (.seqR (.ops [.op (some k7) none (.mov (.c .snil))]) .hole)))))), (.seqR (.ops [.op (some k8) none (.mov (.c (.i .i64 0)))]) (.block 0 .hole)), (.seq (.seq (.ops [.op (some k35) none (.mov (.s k8)), .op (some k36) none (.mov (.s k1)), .op (some k37) none (.lens (.s k36)), .op (some k38) none (.bin .lss .num (.s k35) (.s k37))]) (.cond k38 .skip (.exit 0))) (.seq (.block 1 (.seq (.ops [.op (some k41) none (.mov (.s k1)), .op (some k42) none (.mov (.s k8)), .op (some k43) none (.ixs 1 (.s k41) (.s k42)), .op (some k44) none (.ld (.s k43)), .op (some k45) none (.bin .quo .num (.s k44) (.c (.i .i64 2))), .call (some k46) none (.c (.fn 10 [] [])) [(.s k45)], .op (some k9) none (.mov (.s k46))]) (.seq (.ops [.op (some k10) none (.mov (.c (.i .i64 0)))]) (.seq (.ops [.op (some k47) none (.mov (.s k1)), .op (some k48) none (.mov (.s k8)), .op (some k49) none (.ixs 1 (.s k47) (.s k48)), .op (some k50) none (.ld (.s k49)), .op (some k51) none (.bin .rem .num (.s k50) (.c (.i .i64 2))), .op (some k52) none (.bin .eql .num (.s k51) (.c (.i .i64 0)))]) (.cond k52 (.seq (.ops [.op (some k53) none (.mov (.s k6)), .op (some k54) none (.nilc (.s k53)), .op (some k55) none (.fad 0 (.s k54)), .op (some k56) none (.ld (.s k55)), .op (some k57) none (.mov (.s k9)), .call (some k58) none (.c (.fn 11 [] [])) [(.s k56), (.s k57)], .op (some k10) none (.mov (.s k58))]) (.seq (.ops [.op (some k59) none (.mov (.s k10)), .op (some k60) none (.bin .eql .num (.s k59) (.c (.i .i64 0)))]) (.cond k60 (.ops [.op (some k61) none (.mov (.s k7)), .op (some k62) none (.mov (.s k9)), .op (some k63) none (.bsl 3 1 [(.i .i64 0)] [(0, 1, (.s k62))]), .op (some k64) none (.app 3 1 8 (.s k61) (.s k63)), .op (some k7) none (.mov (.s k64))]) .skip))) (.seq (.ops [.op (some k65) none (.mov (.s k6)), .op (some k66) none (.nilc (.s k65)), .op (some k67) none (.fad 0 (.s k66)), .op (some k68) none (.ld (.s k67)), .op (some k69) none (.mov (.s k9)), .call (some k70) none (.c (.fn 12 [] [])) [(.s k68), (.s k69)], .op (some k10) none (.mov (.s k70))]) (.seq (.ops [.op (some k11) none (.mov (.c .snil))]) (.seq (.seq (.ops [.op (some k12) none (.mov (.c (.i .i64 0)))]) (.block 2 (.loop (.seq (.seq (.ops [.op (some k71) none (.mov (.s k12)), .op (some k72) none (.mov (.s k7)), .op (some k73) none (.lens (.s k72)), .op (some k74) none (.bin .lss .num (.s k71) (.s k73))]) (.cond k74 .skip (.exit 2))) (.seq (.block 3 (.seq (.ops [.op (some k77) none (.mov (.s k7)), .op (some k78) none (.mov (.s k12)), .op (some k79) none (.ixs 1 (.s k77) (.s k78)), .op (some k80) none (.ld (.s k79)), .op (some k81) none (.mov (.s k9)), .op (some k82) none (.bin .neq .num (.s k80) (.s k81))]) (.cond k82 (.ops [.op (some k83) none (.mov (.s k11)), .op (some k84) none (.mov (.s k7)), .op (some k85) none (.mov (.s k12)), .op (some k86) none (.ixs 1 (.s k84) (.s k85)), .op (some k87) none (.ld (.s k86)), .op (some k88) none (.bsl 3 1 [(.i .i64 0)] [(0, 1, (.s k87))]), .op (some k89) none (.app 3 1 8 (.s k83) (.s k88)), .op (some k11) none (.mov (.s k89))]) .skip))) (.ops [.op (some k75) none (.mov (.s k12)), .op (some k76) none (.bin .add .num (.s k75) (.c (.i .i64 1))), .op (some k12) none (.mov (.s k76))])))))) (.seq (.seq (.ops [.op (some k90) none (.mov (.s k10)), .op (some k91) none (.bin .eql .num (.s k90) (.c (.i .i64 0))), .op (some k92) none (.mov (.s k11)), .op (some k93) none (.lens (.s k92)), .op (some k94) none (.mov (.s k7)), .op (some k95) none (.lens (.s k94)), .op (some k96) none (.bin .lss .num (.s k93) (.s k95)), .op (some k97) none (.bin .neq .bool (.s k91) (.s k96))]) (.cond k97 (.seq (.ops [.op (some k4) none (.mov (.c (.b false)))]) .ret) .skip)) (.ops [.op (some k98) none (.mov (.s k11)), .op (some k7) none (.mov (.s k98))])))))))))) (.ops [.op (some k39) none (.mov (.s k8)), .op (some k40) none (.bin .add .num (.s k39) (.c (.i .i64 1))), .op (some k8) none (.mov (.s k40))]))), (.seqL (.block 4 .hole) (.seq (.ops [.op (some k167) none (.mov (.s k6)), .op (some k168) none (.nilc (.s k167)), .op (some k169) none (.fad 0 (.s k168)), .op (some k170) none (.ld (.s k169)), .call (some k171) none (.c (.fn 14 [] [])) [(.s k170)], .op (some k21) none (.mov (.s k171))]) (.seq (.ops [.op (some k172) none (.mov (.s k5)), .op (some k173) none (.mov (.s k172)), .op (some k174) (some (k173, true)) (.mov (.s k21)), .op (some k175) (some (k173, true)) (.bin .eql .num (.s k174) (.c (.i .i64 0))), .op (some k176) none (.pick (.s k173) (.s k175) (.c (.b false))), .op (some k4) none (.mov (.s k176))]) .ret))), (.seq (.seq (.ops [.op (some k99) none (.mov (.s k7)), .op (some k100) none (.lens (.s k99)), .op (some k101) none (.bin .gtr .num (.s k100) (.c (.i .i64 0)))]) (.cond k101 .skip (.exit 4))) (.block 5 (.seq (.ops [.op (some k13) none (.mov (.c (.i .i64 0)))]) (.seq (.ops [.op (some k14) none (.mov (.c (.i .i64 (-1))))]) (.seq (.seq (.ops [.op (some k15) none (.mov (.c (.i .i64 0)))]) (.block 6 (.loop (.seq (.seq (.ops [.op (some k102) none (.mov (.s k15)), .op (some k103) none (.mov (.s k7)), .op (some k104) none (.lens (.s k103)), .op (some k105) none (.bin .lss .num (.s k102) (.s k104))]) (.cond k105 .skip (.exit 6))) (.seq (.block 7 (.seq (.kops [k7, k6] [(true, .op (some k109) none (.mov (.s k6))), (true, .op (some k110) none (.nilc (.s k109))), (true, .op (some k111) none (.fad 0 (.s k110))), (true, .op (some k112) none (.ld (.s k111))), (true, .op (some k113) none (.mov (.s k7))), (true, .op (some k114) none (.mov (.s k15))), (true, .op (some k115) none (.ixs 1 (.s k113) (.s k114))), (true, .op (some k116) none (.ld (.s k115))), (false, .call (some k117) none (.c (.fn 13 [] [])) [(.s k112), (.s k116)]), (true, .op (some k108) none (.mov (.s k117))), (true, .op (some k118) none (.ext (.s k108) 0)), (true, .op (some k119) none (.ext (.s k108) 1)), (false, .op (some k16) none (.new 36 [(.i .i64 0), (.i .i64 0), (.i .i64 0), (.b false), (.i .i64 0), (.i .i64 0), (.i .i64 0), (.i .i64 0), (.b false), (.b false), (.i .i64 0), (.i .i64 0), (.i .i64 0), (.i .i64 0), (.i .u64 0), (.i .u64 0), (.i .u64 0), (.i .u64 0), (.i .u64 0), (.i .u64 0), (.i .u64 0), (.i .u64 0), (.i .u64 0), (.i .u64 0), (.i .u64 0), (.i .u64 0), (.i .u64 0), (.i .u64 0), (.i .u64 0), (.i .u64 0)])), (false, .op none none (.st 30 (.s k16) (.s k118))), (false, .op (some k17) none (.mov (.s k119)))]) (.seq (.seq (.ops [.op (some k120) none (.mov (.s k17)), .op (some k121) none (.bin .neq .num (.s k120) (.c (.i .i64 0))), .op (some k122) none (.mov (.s k121)), .op (some k123) (some (k122, false)) (.fad 3 (.s k16)), .op (some k124) (some (k122, false)) (.ld (.s k123)), .op (some k125) (some (k122, false)) (.not (.s k124)), .op (some k126) none (.pick (.s k122) (.c (.b true)) (.s k125))]) (.cond k126 (.seq (.ops [.op (some k4) none (.mov (.c (.b false)))]) .ret) .skip)) (.seq (.ops [.op (some k127) none (.fad 1 (.s k16)), .op (some k128) none (.ld (.s k127)), .op (some k129) none (.mov (.s k14)), .op (some k130) none (.bin .gtr .num (.s k128) (.s k129))]) (.cond k130 (.seq (.ops [.op (some k131) none (.mov (.s k15)), .op (some k13) none (.mov (.s k131))]) (.ops [.op (some k132) none (.fad 1 (.s k16)), .op (some k133) none (.ld (.s k132)), .op (some k14) none (.mov (.s k133))])) .skip))))) (.ops [.op (some k106) none (.mov (.s k15)), .op (some k107) none (.bin .add .num (.s k106) (.c (.i .i64 1))), .op (some k15) none (.mov (.s k107))])))))) (.seq (.ops [.op (some k134) none (.mov (.s k6)), .op (some k135) none (.nilc (.s k134)), .op (some k136) none (.fad 0 (.s k135)), .op (some k137) none (.ld (.s k136)), .call (some k138) none (.c (.fn 14 [] [])) [(.s k137)], .op (some k18) none (.mov (.s k138))]) (.seq (.ops [.op (some k139) none (.mov (.s k6)), .op (some k140) none (.nilc (.s k139)), .op (some k141) none (.fad 0 (.s k140)), .op (some k142) none (.ld (.s k141)), .op (some k143) none (.mov (.s k14)), .call (some k144) none (.c (.fn 15 [] [])) [(.s k142), (.s k143)], .op (some k19) none (.mov (.s k144))]) (.seq (.seq (.ops [.op (some k145) none (.mov (.s k18)), .op (some k146) none (.mov (.s k7)), .op (some k147) none (.mov (.s k13)), .op (some k148) none (.ixs 1 (.s k146) (.s k147)), .op (some k149) none (.ld (.s k148)), .op (some k150) none (.bin .neq .num (.s k145) (.s k149)), .op (some k151) none (.mov (.s k150)), .op (some k152) (some (k151, false)) (.mov (.s k19)), .op (some k153) (some (k151, false)) (.mov (.s k18)), .op (some k154) (some (k151, false)) (.bin .neq .num (.s k152) (.s k153)), .op (some k155) none (.pick (.s k151) (.c (.b true)) (.s k154))]) (.cond k155 (.seq (.ops [.op (some k4) none (.mov (.c (.b false)))]) .ret) .skip)) (.seq (.ops [.op (some k156) none (.mov (.s k6)), .op (some k157) none (.nilc (.s k156)), .op (some k158) none (.fad 0 (.s k157)), .op (some k159) none (.ld (.s k158)), .op (some k160) none (.mov (.s k18)), .call (some k161) none (.c (.fn 12 [] [])) [(.s k159), (.s k160)], .op (some k20) none (.mov (.s k161))]) (.seq (.seq (.ops [.op (some k162) none (.mov (.s k20)), .op (some k163) none (.bin .neq .num (.s k162) (.c (.i .i64 0)))]) (.cond k163 (.seq (.ops [.op (some k4) none (.mov (.c (.b false)))]) .ret) .skip)) (.ops [.op (some k164) none (.mov (.s k7)), .op (some k165) none (.mov (.s k13)), .call (some k166) none (.c (.fn 16 [] [])) [(.s k164), (.s k165)], .op (some k7) none (.mov (.s k166))]))))))))))), [.tmp k4]⟩
def o1l (z : Nat) (l : List V) : O := match z with
 | 0 => .dead
 | z + 1 => .row 1 (z + 1) (.v 11) (.v 12) l
def lsW : Nat → Nat → List V
 | _, 0 => []
 | i, n + 1 => .si .i64 (.v (400 + i)) :: lsW (i + 1) n
def nW (j : Nat) : Nat := Nat.div j 2
def moreW (j : Nat) : Bool := Nat.beq (Nat.mod j 2) 1
def bs2 : PT O := (((PT.e : PT O).set q3 (.oa 33 100 2048 13 .nil)).set q4 (.cells 98 [.sl q3 0 2048 2048, .si .i64 (.v 5)])).set q7 (.cells 32 [.ptr q4 0, .ptr q6 0])
def bs1 (z : Nat) (b : Bool) : PT O := bs2.set q2 (o1l z (bif b then [.si .i64 (.v 13)] else []))
def fr2W : List (Ky × V) := [(k5, .b true), (k6, .ptr q7 0)]
def fr1W (z : Nat) : List (Ky × V) := (k1, a1 z) :: (k8, .si .i64 (.v 12)) :: fr2W
def mv1 (z j : Nat) : MvS := ⟨k7, fr1W z, q8, q9, q3, bs1 z (moreW j), 3, lsW 0 (nW j)⟩
def mv2 (n : Nat) : MvS := ⟨k7, fr2W, q8, q9, q3, bs2, 3, lsW 0 n⟩
def st1 (z j : Nat) : GS := bif Nat.beq (nW j) 0 then ⟨(k7, .snil) :: fr1W z, ⟨q8, q3, bs1 z (moreW j)⟩⟩ else (mv1 z j).st
def st2 (n : Nat) : GS := bif Nat.beq n 0 then ⟨(k7, .snil) :: fr2W, ⟨q8, q3, bs2⟩⟩ else (mv2 n).st
def nk1 (z n : Nat) (σ : Sg) : Fr → H → Nat := bif Nat.beq n 0 then nextK (st1 z) (bif Nat.beq z 0 then [(0, σ)] else [(0, σ), (1, σ)]) else fun fr h => Nat.add (nextM (mv1 z (2 * n)) σ fr h) (nextM (mv1 z (2 * n + 1)) σ fr h)
def nk2 (n : Nat) (σ : Sg) : Fr → H → Nat := bif Nat.beq n 0 then nextK st2 [(0, σ)] else nextM (mv2 n) σ
def vT : V := .si .i64 (.v 300)
def quoW : SE := .op .quo .i64 (.v 13) (.lit 2)
def nobW (c : Nat) : Bool := Nat.beq c 3 || Nat.beq c 6
def psW (c : Nat) : List PEnt := [⟨10, [.si .i64 quoW], bif nobW c then .i .i64 1056 else vT⟩]
def esW (c : Nat) : List Ent := match c with
 | 1 => [⟨11, [vT], 101, .i .i64 0, .v 310⟩]
 | 2 => [⟨11, [vT], 101, .i .i64 120, .v 310⟩]
 | 4 => [⟨12, [vT], 101, .i .i64 0, .v 310⟩]
 | 5 => [⟨12, [vT], 101, .i .i64 121, .v 310⟩]
 | _ => []
def fsW (c n k : Nat) : List (SB × Bool) := (.cmp .eql (.op .rem .i64 (.v 13) (.lit 2)) (.lit 0), Nat.ble c 3) :: (match c with
 | 4 => (rng n).map fun i => (.cmp .neq (.v (400 + i)) (.v 300), !Nat.beq i k)
 | 5 => (rng n).map fun i => (.cmp .neq (.v (400 + i)) (.v 300), true)
 | 6 => (rng n).map fun i => (.cmp .neq (.v (400 + i)) (.lit 1056), true)
 | _ => [])
def toW (c n : Nat) : Nat := match c with
 | 1 => n + 1
 | 4 => Nat.pred n
 | _ => n
def elW (c n k i : Nat) : SE := match c with
 | 1 => bif Nat.beq i n then .v 300 else .v (400 + i)
 | 4 => bif Nat.blt i k then .v (400 + i) else .v (400 + (i + 1))
 | _ => .v (400 + i)
def rowW (c : Nat) : Nat := bif nobW c then 100 else 101
def sgW (c n k : Nat) : Sg := sgL ([(11, .v 11), (12, .op .add .i64 (.v 12) (.lit 1)), (5, bif nobW c then .v 5 else .op .add .i64 (.v 5) (.v 310)), (100100, .lit (.ofNat (rowW c)))] ++ (rng (toW c n)).map fun i => (400 + i, elW c n k i))
def sgW0 : Sg := sgL [(11, .v 11), (12, .lit 0), (5, .v 5), (100100, .lit 100)]
def sgWo (n : Nat) : Sg := sgL ([(5, .v 5), (100100, .lit 100)] ++ (rng n).map fun i => (400 + i, .v (400 + i)))
def cxWd (c : Nat) : Cx := cxM cx0 cP 100 (esW c) (psW c)
def gW (c : Nat) : Ctx := ⟨callT (cxWd c) 20, 3, 20000⟩
def goW (c n k : Nat) : Nat := runK (st1 1) qo.x1 (qo.endK (gW c) (fun _ _ => 1)) (nk1 1 (toW c n) (sgW c n k)) (gW c) (2 * n + 1) ⟨(.cmp .lss (.v 12) (.v 11), true) :: fsW c n k, []⟩
def g0W : Ctx := ⟨callT cx0 20, 3, 20000⟩
def fEw (z : Nat) : List (SB × Bool) := [(bif Nat.beq z 0 then (.cmp .lss (.v 12) (.lit 0), false) else (.cmp .lss (.v 12) (.v 11), false))]
def outW (z n : Nat) : Nat := runK (st1 z) qo.x1 (qo.endK g0W (nk2 n (sgWo n))) (fun _ _ => 1) g0W (2 * n) ⟨fEw z, []⟩
def prS (k : Nat) : SE := .v (801 + 40 * k)
def btW (l : List Bool) (k : Nat) : Bool := l.getD k false
def bestW (l : List Bool) : Nat → Nat
 | 0 => 0
 | k + 1 => bif btW l k then k + 1 else bestW l k
def thrW (k : Nat) : Ent := ⟨13, [.si .i64 (.v (400 + k))], 101 + k, .tup [tD (800 + 40 * k), .i .i64 0], .lit 20⟩
def esS (n b : Nat) : List Ent := (rng n).map thrW ++ [⟨14, [], 101 + n, .si .i64 (.v (400 + b)), .v 311⟩, ⟨15, [.si .i64 (prS b)], 102 + n, .si .i64 (.v (400 + b)), .lit 1⟩, ⟨12, [.si .i64 (.v (400 + b))], 103 + n, .i .i64 0, .v 310⟩]
def fsS (n : Nat) (l : List Bool) : List (SB × Bool) := (.cmp .gtr (prS 0) (.lit (-1)), true) :: ((rng n).map (fun k => (.cmp .eql (.v (803 + 40 * k)) (.lit 1), true)) ++ ((rng (Nat.pred n)).map (fun k => (.cmp .gtr (prS (k + 1)) (prS (bestW l k)), btW l k)) ++ [(.cmp .neq (.v (400 + bestW l (Nat.pred n))) (.v (400 + bestW l (Nat.pred n))), false)]))
def sgS (n b : Nat) : Sg := sgL ([(5, .op .add .i64 (.op .add .i64 (.op .add .i64 (.op .add .i64 (.v 5) (.lit (.ofNat (20 * n)))) (.v 311)) (.lit 1)) (.v 310)), (100100, .lit (.ofNat (103 + n)))] ++ (rng (Nat.pred n)).map fun i => (400 + i, bif Nat.blt i b then .v (400 + i) else .v (400 + (i + 1))))
def gS (n b : Nat) : Ctx := ⟨callT (cxM cx0 cP 100 (esS n b) []) 20, 3, 20000⟩
def goS (n : Nat) (l : List Bool) : Nat := runK st2 qo.x2 (qo.end2 (gS n (bestW l (Nat.pred n)))) (nk2 (Nat.pred n) (sgS n (bestW l (Nat.pred n)))) (gS n (bestW l (Nat.pred n))) n ⟨fsS n l, []⟩
def patW : Nat → List (List Bool)
 | 0 => [[]]
 | n + 1 => (patW n).map (true :: ·) ++ (patW n).map (false :: ·)
def esZ : List Ent := [⟨14, [], 101, .i .i64 0, .v 311⟩]
def gZ : Ctx := ⟨callT (cxM cx0 cP 100 esZ []) 20, 3, 20000⟩
def endW : Nat := runK st2 qo.x2 (qo.end2 gZ) (fun _ _ => 1) gZ 0 ⟨[], []⟩
def fI (b : Bool) (z : Nat) : List (SB × Bool) := (bif b then [] else [(.cmp .gtr (.v 1) (.lit 2147483647), false)]) ++ (bif Nat.beq z 0 then [] else [(.cmp .gtr (.v 11) (.lit 2147483647), false)])
def inWc (b : Bool) (z : Nat) : CallT := callAx (memo (mdM false b z) (callT cx0 20))
def gIn (b : Bool) (z : Nat) : Ctx := ⟨inWc b z, 3, 20000⟩
def inW (b : Bool) (z : Nat) : Nat := initFr [a0 b, a1 z] (fun fr => zIn qo.z0 (gIn b z) fr (hM0 false b z) ⟨fI b z, []⟩ (fun fr h fa => zIn qo.z1 (gIn b z) fr h fa (fun fr h _ => nk1 z 0 sgW0 fr h) (kLoopK qo.z2 (gIn b z) (fun _ _ => 1) (zOut qo.z0 (gIn b z) (koB qo.rs)))) (koB qo.rs))
def fL0 : List (SB × Bool) := [(.cmp .gtr (.v 1) (.lit 2147483647), true)]
def fL1 (b : Bool) : List (SB × Bool) := (bif b then [] else [(.cmp .gtr (.v 1) (.lit 2147483647), false)]) ++ [(.cmp .gtr (.v 11) (.lit 2147483647), true)]
def bigW (b : Bool) (z : Nat) (fs : List (SB × Bool)) : Nat := callS cx0 0 noCall 3 [a0 b, a1 z] (hM0 false b z) ⟨fs, []⟩ (endV (.b true))
theorem qco : cut2X (tyOf Try.prog) dr3 Try.f3 = some qo := by kernel_rfl
theorem goW1_ok : allB (fun n => Nat.beq (goW 1 n 0) 0) (rng 8) = true := by decide +kernel
theorem goW2_ok : allB (fun n => allB (fun c => Nat.beq (goW c n 0) 0) [2, 3, 5, 6]) (rng 9) = true := by decide +kernel
theorem goW4_ok : allB (fun n => allB (fun k => Nat.beq (goW 4 n k) 0) (rng n)) (rng 9) = true := by decide +kernel
theorem outW_ok : outW 0 0 = 0 ∧ allB (fun n => Nat.beq (outW 1 n) 0) (rng 9) = true := by decide +kernel
theorem mvW_ok : allB (fun j => (mv1 1 j).ok) (rng 18) = true ∧ allB (fun n => (mv2 n).ok) (rng 9) = true := by decide +kernel
theorem endW_ok : endW = 0 := by decide +kernel
theorem inW_ok : allB (fun b => Nat.beq (inW b 0) 0 && Nat.beq (inW b 1) 0) bools = true := by decide +kernel
theorem bigW_ok : (bigW false 0 fL0 = 0 ∧ bigW false 1 fL0 = 0) ∧ (bigW false 1 (fL1 false) = 0 ∧ bigW true 1 (fL1 true) = 0) := by decide +kernel
end Go.Ev.X
end
