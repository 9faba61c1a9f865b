import Derived.Test.YtcinokgfjdifbaaGreatEBd
set_option linter.unusedSimpArgs false
set_option linter.unusedVariables false
set_option maxRecDepth 100000
noncomputable section
namespace Go.Ev.X
open Go Go.Ev Go.Proofs
def qb:CutX:=⟨(.seqR (.ops [.op (some k6) none (.mov (.c (.b false)))]) (.seqR (.ops [.call (some k20) none (.c (.fn 6 [] [])) [],.op (some k7) none (.mov (.s k20))]) (.seqR (.ops [.call (some k21) none (.c (.fn 7 [] [])) [],.op (some k8) none (.mov (.s k21))]) (.seqR (.seq (.ops [.op (some k22) none (.mov (.s k8)),.op (some k23) none (.bin .eql .ptr (.s k22) (.c .nil))]) (.cond k23 (.seq (.ops [.op (some k6) none (.mov (.c (.b false)))]) .ret) .skip)) (.seqL (.seqR (.ops [.op (some k9) none (.mov (.c (.i .i64 0)))]) (.block 0 .hole)) (.seq (.ops [.op (some k40) none (.mov (.s k1)),.call (some k41) none (.c (.fn 9 [] [])) [(.s k40)],.op (some k10) none (.mov (.s k41))]) (.seq (.ops [.op (some k43) none (.mov (.s k8)),.op (some k44) none (.nilc (.s k43)),.op (some k45) none (.fad 0 (.s k44)),.op (some k46) none (.ld (.s k45)),.op (some k47) none (.mov (.s k10)),.call (some k48) none (.c (.fn 15 [] [])) [(.s k46),(.s k47)],.op (some k42) none (.mov (.s k48)),.op (some k49) none (.ext (.s k42) 0),.op (some k50) none (.ext (.s k42) 1),.op (some k11) none (.new 48 [(.i .i64 0),(.i .i64 0),(.i .i64 0)]),.op none none (.st 3 (.s k11) (.s k49)),.op (some k12) none (.mov (.s k50))]) (.seq (.seq (.ops [.op (some k51) none (.mov (.s k12)),.op (some k52) none (.bin .neq .num (.s k51) (.c (.i .i64 0)))]) (.cond k52 (.seq (.ops [.op (some k6) none (.mov (.c (.b false)))]) .ret) .skip)) (.seq (.ops [.op (some k13) none (.mov (.c .snil))]) (.seq (.ops [.op (some k53) none (.mov (.s k8)),.op (some k54) none (.nilc (.s k53)),.op (some k55) none (.fad 0 (.s k54)),.op (some k56) none (.ld (.s k55)),.op (some k57) none (.mov (.s k10)),.call (some k58) none (.c (.fn 10 [] [])) [(.s k56),(.s k57)],.op (some k14) none (.mov (.s k58))]) (.seq (.seq (.ops [.op (some k15) none (.mov (.c (.i .i64 0)))]) (.block 2 (.loop (.seq (.seq (.ops [.op (some k59) none (.mov (.s k15)),.op (some k60) none (.mov (.s k14)),.op (some k61) none (.lens (.s k60)),.op (some k62) none (.bin .lss .num (.s k59) (.s k61))]) (.cond k62 .skip (.exit 2))) (.seq (.block 3 (.seq (.kops [k14,k8] [(true,.op (some k66) none (.mov (.s k8))),(true,.op (some k67) none (.nilc (.s k66))),(true,.op (some k68) none (.fad 0 (.s k67))),(true,.op (some k69) none (.ld (.s k68))),(true,.op (some k70) none (.mov (.s k14))),(true,.op (some k71) none (.mov (.s k15))),(true,.op (some k72) none (.ixs 1 (.s k70) (.s k71))),(true,.op (some k73) none (.ld (.s k72))),(false,.call (some k74) none (.c (.fn 13 [] [])) [(.s k69),(.s k73)]),(true,.op (some k65) none (.mov (.s k74))),(true,.op (some k75) none (.ext (.s k65) 0)),(true,.op (some k76) none (.ext (.s k65) 1)),(false,.op (some k16) none (.new 42 [(.i .i64 0),(.i .i64 0),(.i .i64 0),(.b false),(.i .i64 0),(.i .i64 0),(.i .i64 0),(.i .i64 0),(.b false),(.b false),(.i .i64 0),(.i .i64 0),(.i .i64 0),(.i .i64 0),(.i .u64 0),(.i .u64 0),(.i .u64 0),(.i .u64 0),(.i .u64 0),(.i .u64 0),(.i .u64 0),(.i .u64 0),(.i .u64 0),(.i .u64 0),(.i .u64 0),(.i .u64 0),(.i .u64 0),(.i .u64 0),(.i .u64 0),(.i .u64 0)])),(false,.op none none (.st 30 (.s k16) (.s k75))),(false,.op (some k17) none (.mov (.s k76)))]) (.seq (.seq (.ops [.op (some k77) none (.mov (.s k17)),.op (some k78) none (.bin .neq .num (.s k77) (.c (.i .i64 0)))]) (.cond k78 (.seq (.ops [.op (some k6) none (.mov (.c (.b false)))]) .ret) .skip)) (.seq (.ops [.op (some k79) none (.fad 0 (.s k11)),.op (some k80) none (.ld (.s k79)),.op (some k81) none (.bin .neq .num (.s k80) (.c (.i .i64 1))),.op (some k82) none (.mov (.s k81)),.op (some k83) (some (k82,false)) (.fad 7 (.s k16)),.op (some k84) (some (k82,false)) (.ld (.s k83)),.op (some k85) (some (k82,false)) (.mov (.s k2)),.op (some k86) (some (k82,false)) (.bin .neq .num (.s k84) (.s k85)),.op (some k87) none (.pick (.s k82) (.c (.b true)) (.s k86))]) (.cond k87 (.ops [.op (some k88) none (.mov (.s k13)),.op (some k89) none (.mov (.s k14)),.op (some k90) none (.mov (.s k15)),.op (some k91) none (.ixs 1 (.s k89) (.s k90)),.op (some k92) none (.ld (.s k91)),.op (some k93) none (.bsl 3 1 [(.i .i64 0)] [(0,1,(.s k92))]),.op (some k94) none (.app 3 1 8 (.s k88) (.s k93)),.op (some k13) none (.mov (.s k94))]) .skip))))) (.ops [.op (some k63) none (.mov (.s k15)),.op (some k64) none (.bin .add .num (.s k63) (.c (.i .i64 1))),.op (some k15) none (.mov (.s k64))])))))) (.seq (.ops [.op (some k95) none (.mov (.s k8)),.op (some k96) none (.nilc (.s k95)),.op (some k97) none (.fad 0 (.s k96)),.op (some k98) none (.ld (.s k97)),.op (some k99) none (.mov (.s k10)),.op (some k100) none (.mov (.s k2)),.call (some k101) none (.c (.fn 16 [] [])) [(.s k98),(.s k99),(.s k100)]]) (.seq (.ops [.op (some k102) none (.mov (.s k8)),.op (some k103) none (.nilc (.s k102)),.op (some k104) none (.fad 0 (.s k103)),.op (some k105) none (.ld (.s k104)),.op (some k106) none (.mov (.s k10)),.call (some k107) none (.c (.fn 10 [] [])) [(.s k105),(.s k106)],.op (some k18) none (.mov (.s k107))]) (.seq (.ops [.op (some k108) none (.mov (.s k18)),.op (some k109) none (.mov (.s k13)),.call (some k110) none (.c (.fn 12 [] [])) [(.s k108),(.s k109)],.op (some k19) none (.mov (.s k110))]) (.seq (.ops [.op (some k111) none (.mov (.s k7)),.op (some k112) none (.mov (.s k111)),.op (some k113) (some (k112,true)) (.mov (.s k19)),.op (some k114) none (.pick (.s k112) (.s k113) (.c (.b false))),.op (some k6) none (.mov (.s k114))]) .ret))))))))))))))),(.seq (.seq (.ops [.op (some k24) none (.mov (.s k9)),.op (some k25) none (.mov (.s k0)),.op (some k26) none (.lens (.s k25)),.op (some k27) none (.bin .lss .num (.s k24) (.s k26)),.op (some k28) none (.mov (.s k27)),.op (some k29) (some (k28,true)) (.mov (.s k9)),.op (some k30) (some (k28,true)) (.bin .lss .num (.s k29) (.c (.i .i64 60))),.op (some k31) none (.pick (.s k28) (.s k30) (.c (.b false)))]) (.cond k31 .skip (.exit 0))) (.seq (.block 1 (.ops [.op (some k34) none (.mov (.s k8)),.op (some k35) none (.mov (.s k0)),.op (some k36) none (.mov (.s k9)),.op (some k37) none (.ixs 6 (.s k35) (.s k36)),.op (some k38) none (.ldn 6 (.s k37)),.call (some k39) none (.c (.fn 8 [] [])) [(.s k34),(.s k38)]])) (.ops [.op (some k32) none (.mov (.s k9)),.op (some k33) none (.bin .add .num (.s k32) (.c (.i .i64 1))),.op (some k9) none (.mov (.s k33))]))),[.tmp k6]⟩
def frD:List (Ky × V):=[(k0,.fs q1 0),(k1,.si .i64 (.v 3)),(k2,.si .i64 (.v 4)),(k7,.b true),(k8,.ptr zl6 0),(k9,.si .i64 (.v 2))]
def zkn:Nat->List Bool
 | 0=>[]
 | n+1=>false::zkn n
def patL:List (Bool × List Bool):=(rng 5).map (fun n=>(false,zkn n)) ++ (zgg 1 ++ (zgg 2 ++ (zgg 3 ++ zgg 4))).map fun p=>(true,p)
def bW (d:Nat):Nat:=Nat.div d 64
def bC (d:Nat):Bool × List Bool:=patL.getD (Nat.mod d 64) (false,[])
def bOk (d:Nat):Bool:=Nat.blt d 192 && Nat.blt (Nat.mod d 64) 35
def zaK:Nat->List Bool->List Nat
 | _,[]=>[]
 | i,true::p=>zaK (i+1) p
 | i,false::p=>i::zaK (i+1) p
def shB1 (w n:Nat):List Sh:=zcr 15 (eV' w) (700+10*w)::zcr 15 (eV' w) (700+10*w)::(lsB (1000+200*w) 13 (701+10*w) n ++ lsB (1000+200*w) 13 (701+10*w) n)
def shB2 (w m:Nat):List Sh:=zcr 15 (eV' w) (730+10*w)::lsB (1600+200*w) 13 (731+10*w) m
def shD (w:Nat) (p:List Bool):List Sh:=shB1 w p.length ++ (cl 16 [eV' w,.si .i64 (.v 4)]::shB2 w (zaK 0 p).length)
def bdF (w i:Nat):List Bool->List (SB × Bool)
 | []=>[]
 | b::p=>(.cmp .neq (.v (1000+200*w+40*i+7)) (.v 4),!b)::bdF w (i+1) p
def eqB (w:Nat):Nat->List Nat->List (SB × Bool)
 | _,[]=>[]
 | j,k::r=>(.cmp .neq (symB (1600+200*w) (731+10*w) j) (symB (1000+200*w) (701+10*w) k),false)::eqB w (j+1) r
def fsD (w:Nat) (k:Bool) (p:List Bool):List (SB × Bool):=(.cmp .neq (.v (700+10*w)) (.lit 1),!k)::(lsBF (1000+200*w) (701+10*w) p.length ++ (lsBF (1600+200*w) (731+10*w) (zaK 0 p).length ++ ((bif k then bdF w 0 p else []) ++ eqB w 0 (zaK 0 p))))
def psD (w:Nat):List PEnt:=[⟨9,[.si .i64 (.v 3)],eV' w⟩]
def zfD:LawA:=⟨4,60,[3,4],1,fun _=>[],fun _=>[],fun _=>[],bOk,fun d=>shD (bW d) (bC d).2,fun d=>psD (bW d),fun d=>fsD (bW d) (bC d).1 (bC d).2,fun _ _=>True⟩
def cxTD (c n:Nat):Cx:=cxA psA (shP c ++ []) (shR c ++ [])
def cxED (d:Nat):Cx:=cxWt (cxA (psD (bW d)) (shD (bW d) (bC d).2 ++ []) [])
def goD (c:Nat):Nat:=runJ (stA frD) qb.x qb.z (koB qb.rs) ⟨zaM (cxTD c 0) 20,4,20000⟩ 1 ⟨zfD.ro c 0,[]⟩ (nxA' (sgA zfD.ex (zfD.lp c 0) (zfD.lr c 0)))
def outD (b:Bool) (d:Nat):Nat:=runJ (stA frD) qb.x qb.z (koB qb.rs) ⟨zaM (cxED d) 20,4,20000⟩ 0 ⟨zfD.fo b d,[]⟩ []
def inD:Nat:=zfI (argK zfD) (fun fr=>zIn qb.z ⟨inA,4,20000⟩ fr hIn ⟨[],[]⟩ (fun fr h _=>zhx (stA frD) (nxA' (sgA0 zfD.ex)) fr h) (koB qb.rs))
theorem qcb:cutX (zX Tryz.prog) dr4 Tryz.f4=some qb:=by kernel_rfl
def allD (w:Nat):Bool:=zW (fun i=>Nat.beq (outD true (64*w+i)) 0 && Nat.beq (outD false (64*w+i)) 0) (rng 35)
end Go.Ev.X
end
set_option maxRecDepth 100000
namespace Go.Ev.X
open Go Go.Ev
theorem goD_ok:zW (fun c=>Nat.beq (goD c) 0) (rng 15)=true:=by decide +kernel
theorem inD_ok:inD=0:=by decide +kernel
end Go.Ev.X
