import Derived.Test.YtcinokgfjdifbaaGreatJX
import Derived.Test.YtcinokgfjdifbaaGreatATx
import Derived.Test.YtcinokgfjdifbaaGreatGB
import Derived.Test.YtcinokgfjdifbaaGreatE7
import Derived.Test.YtcinokgfjdifbaaGreatE6
set_option linter.unusedSimpArgs false
set_option linter.unusedVariables false
set_option maxRecDepth 100000
noncomputable section
namespace Go.Ev.X
open Go Go.Ev Go.Proofs
def zow (inner:z3):z3:=fun F l h fa k=>bc (Nat.beq F 6) (aHook l h fa k) (inner F l h fa k)
theorem zjA {E:Env} {inner:z3} (h:zk E PP inner):zk E PP (zow inner):=by
 intro F l h0 fa k hk hfa
 have hk:bc (Nat.beq F 6) (aHook l h0 fa k) (inner F l h0 fa k)=0:=hk
 cases e:Nat.beq F 6 with
 | true=>exact zu8 (cx1_ok (zdv E)) (zdH (zdv E)) F l h0 fa k (by show bc (Nat.beq F 6) _ 1=0;rw[e]at hk ⊢;exact hk) hfa
 | false=>rw[e]at hk;exact h F l h0 fa k hk hfa
def TE:SE:=.op .add .i64 (.lit 1024) (.op .mul .i64 (.lit 64) (.v 300))
def EE:SE:=.op .add .i64 (.lit 3120) (.op .mul .i64 (.lit 4) (.v 302))
def Tv:V:=.si .i64 TE
def Ev':V:=.si .i64 EE
def rcA (c:Nat):Bool:=Nat.ble 4 (Nat.pred c)
def rfA (c:Nat):Bool:=Nat.beq (Nat.mod (Nat.div (Nat.pred c) 2) 2) 1
def rnA (c:Nat):Bool:=Nat.beq (Nat.mod (Nat.pred c) 2) 1
def isJ (c:Nat):Bool:=Nat.ble 1 c && Nat.ble c 8
def stJ (c:Nat):V:=bif rcA c then .i .i64 3 else .i .i64 2
def snd (c:Nat):Bool:=bif rcA c then false else bif rfA c then false else true
def bdX:V:=tX 600 (sv 600) (tv 603) (sv 604) (sv 605) (sv 606) (sv 303) (tv 608) (tv 609) (sv 304)
def cl (F:Nat) (l:List V):Sh:=⟨F,l,.tup []⟩
def shP (c:Nat):List Sh:=bif isJ c then cl 56 [Tv,z0]::cl 20 [Ev',Tv,stJ c]::(bif snd c then [zey 59 Tv bdX] else []) else match c with
 | 9=>[cl 21 [Tv]]
 | 10=>[cl 28 [Tv]]
 | 12=>[cl 11 [Ev']]
 | 13=>[cl 16 [Ev',sv 303]]
 | 14=>[cl 33 []]
 | _=>[]
def shR (c:Nat):List Sh:=bif isJ c then rdT 62 Tv 500::cl 57 [Tv,z0]::cl 58 [Ev',Tv,stJ c]::rdT 62 Tv 600::(bif snd c then [zey 83 Tv bdX] else []) else match c with
 | 0=>[rdT 62 Tv 500]
 | 9=>[cl 26 [Tv]]
 | 10=>[rdT 62 Tv 500,cl 29 [Tv]]
 | 11=>[rdT 62 Tv 500]
 | 12=>[cl 30 [Ev']]
 | 13=>[cl 32 [Ev',sv 303]]
 | _=>[cl 34 []]
def doA (c:Nat):Nat:=bif Nat.ble c 8 then 1 else match c with
 | 9=>2
 | 10=>3
 | 11=>3
 | 12=>4
 | 13=>5
 | _=>6
def fsX:Nat->List (SB × Bool)
 | 0=>[]
 | n+1=>(.cmp .eql (.v 13) (.lit (.ofNat (n+1))),false)::fsX n
def fsDo (c:Nat):List (SB × Bool):=(bif Nat.ble (doA c) 5 then [(.cmp .eql (.v 13) (.lit (.ofNat (doA c))),true)] else []) ++ fsX (Nat.pred (doA c))
def fsC (c:Nat):List (SB × Bool):=bif isJ c then (bif rnA c then [(.cmp .neq (.v 500) (.lit 0),true),(.cmp .neq (.v 500) (.lit 1),false)] else [(.cmp .neq (.v 500) (.lit 0),false)]) ++ [(.cmp .eql (.v 17) (.lit 1),rcA c),(.cmp .neq (.v 600) (.lit 2),!snd c)] else match c with
 | 0=>[(.cmp .neq (.v 500) (.lit 0),true),(.cmp .neq (.v 500) (.lit 1),true)]
 | 10=>[(.cmp .eql (.v 500) (.lit 0),true)]
 | 11=>[(.cmp .eql (.v 500) (.lit 0),false)]
 | _=>[]
def fsA (c:Nat):List (SB × Bool):=fsDo c ++ fsC c
def psA:List PEnt:=[⟨31,[.si .i64 (.v 14),.i .i64 4],.si .i64 (.v 300)⟩,⟨31,[.si .i64 (.v 15),.i .i64 3],.si .i64 (.v 302)⟩,⟨31,[.si .i64 (.v 16),.i .i64 100],.si .i64 (.v 303)⟩,⟨31,[.si .i64 (.v 18),.i .i64 4],.si .i64 (.v 304)⟩]
def l6:List V:=[.si .i64 (.v 13),.si .i64 (.v 14),.si .i64 (.v 15),.si .i64 (.v 16),tv 17,.si .i64 (.v 18)]
def hA (j:Nat):H:=⟨q1380,q2,(((((((PT.e:PT O).set q1 (.row 0 6 (.v 1) (.v 2) (bif Nat.beq j 0 then [] else l6))).set q2 (.oa 39 200 8192 13 .nil)).set q3 (.cells 63 [.sl q2 0 8192 8192,.si .i64 (.v 6)])).set zho (.oa 39 100 8192 13 .nil)).set zi3 (.cells 96 [.sl zho 0 8192 8192,.si .i64 (.v 5)])).set zl6 (.cells 36 [.ptr zi3 0,.ptr q3 0]))⟩
def stA (fr:List (Ky × V)) (j:Nat):GS:=⟨fr,hA j⟩
def nxA' (σ:Sg):List (Nat × Sg):=[(0,σ),(1,σ)]
def sgA (ex:List (Nat × SE)) (p r:List Sh):Sg:=sgL ([(1,.v 1),(2,.op .add .i64 (.v 2) (.lit 1)),(5,sumS (.v 5) 100 p),(6,sumS (.v 6) 200 r),(100100,.lit (.ofNat (100+p.length))),(100200,.lit (.ofNat (200+r.length)))] ++ ex)
def sgA0 (ex:List (Nat × SE)):Sg:=sgL ([(1,.v 1),(2,.lit 0),(5,.lit 0),(6,.lit 677),(100100,.lit 100),(100200,.lit 200)] ++ ex)
def cxA (ps:List PEnt) (p r:List Sh):Cx:=cxI (zaM cx0 20) (cxI (zaM cx0 20) (cxM cx0 cP 100 [] ps) cP 100 (zgj 100 p)) cR 200 (zgj 200 r)
def inA:z3:=zpG 7 q2 (.arr 39 8192 13 (.i .u64 0) abt0) (.oa 39 200 8192 13 .nil) (zpG 7 zho (.arr 39 8192 13 (.i .u64 0) abt0) (.oa 39 100 8192 13 .nil) (zhy gb (zow zga)))
def hIn:H:=⟨q2,q2,(PT.e:PT O).set q1 (.row 0 6 (.v 1) (.v 2) [])⟩
end Go.Ev.X
end
