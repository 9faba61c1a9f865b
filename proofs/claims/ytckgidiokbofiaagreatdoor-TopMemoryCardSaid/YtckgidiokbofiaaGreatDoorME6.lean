import Derived.Test.YtckgidiokbofiaaGreatDoorME5
import Derived.Test.YtckgidiokbofiaaGreatDoorME4
import Derived.Test.YtckgidiokbofiaaGreatDoorME3
set_option linter.unusedSimpArgs false
set_option linter.unusedVariables false
noncomputable section
namespace Go.Ev
open Go
variable {E E':Env} {P:Program}
def WordsIs (cs:Array Value) (N:Nat) (f:Nat->Int):Prop:=cs.size=N/\∀ i,i<N->cs[i]? = some (.int .u64 (f i))
structure MemAt (c:MC) (w:World) (bm ba:Nat) (f:Nat->Int) (st:Int):Prop where
 ne:bm≠ba
 m:w.heap[bm]? = some (.cells #[.slice (some ⟨ba,0,none⟩) c.N c.N,.int .i64 st] c.tM (0,0))
 a:∃ cs,w.heap[ba]? = some (.cells cs c.tA (0,0))/\WordsIs cs c.N f
structure KeepM (bm ba:Nat) (w w':World):Prop where
 os:w'.os=w.os
 tape:w'.tape=w.tape
 output:w'.output=w.output
 size:w.heap.size<=w'.heap.size
 keep:∀ b,b<w.heap.size->b≠bm->b≠ba->w'.heap[b]? = w.heap[b]?
def zdf (st:Int) (k:Nat):Int:=if k=0 then st else arS .add .i64 st k
structure Ent where
 F:Nat
 l:List V
 q':Nat
 v:V
 k:SE
end Go.Ev
end
set_option linter.unusedSimpArgs false
set_option linter.unusedVariables false
noncomputable section
namespace Go.Ev
open Go
variable {E E':Env} {P:Program}
def RS.u64:RS->Bool
 | .i k _=>kEq k .u64
 | .s k _=>kEq k .u64
 | _=>false
def RS.num (E:Env):RS->Int
 | .i _ n=>n
 | .s _ e=>e.den E
 | _=>0
end Go.Ev
end
set_option linter.unusedSimpArgs false
set_option linter.unusedVariables false
noncomputable section
namespace Go.Ev
open Go
variable {E E':Env} {P:Program}
structure TV where
 st:Int
 pr:Int
 sl:Int
 q:Bool
 pv:Int
 nx:Int
 bl:Int
 bd:Int
 g:Bool
 c:Bool
 bo:Int
 ha:Int
 fk:Int
 fa:Int
def b2 (x:Bool):Int:=match x with
 | true=>1
 | false=>0
def TV.w0 (v:TV):Int:=v.st+v.pr*8+v.sl*2048+b2 v.q*16384+b2 v.g*32768+b2 v.c*65536+v.fk*131072
def TV.w1 (v:TV):Int:=v.pv+v.nx*65536+v.bl*4294967296+v.bo*281474976710656
def TV.w2 (v:TV):Int:=v.bd
def TV.w3 (v:TV):Int:=v.ha+v.fa*4294967296
structure TV.Right (v:TV):Prop where
 st:0<=v.st/\v.st<=5
 pr:0<=v.pr/\v.pr<256
 sl:0<=v.sl/\v.sl<=5
 pv:0<=v.pv/\v.pv<65536
 nx:0<=v.nx/\v.nx<65536
 bl:0<=v.bl/\v.bl<65536
 bd:0<=v.bd/\v.bd<268435456
 bo:0<=v.bo/\v.bo<65536
 ha:0<=v.ha/\v.ha<4294967296
 fk:0<=v.fk/\v.fk<4
 fa:0<=v.fa/\v.fa<4294967296
def getW (a b c d:Int):TV:=⟨a % 8,a / 8 % 256,a / 2048 % 8,decide (a / 16384 % 2=1),b % 65536,b / 65536 % 65536,b / 4294967296 % 65536,c % 268435456,decide (a / 32768 % 2=1),decide (a / 65536 % 2=1),
 b / 281474976710656 % 65536,d % 4294967296,a / 131072 % 4,d / 4294967296 % 4294967296⟩
def zey (f:Nat->Int) (t:Nat):TV:=getW (f (t+16)) (f (t+17)) (f (t+18)) (f (t+19))
structure RightAt (f:Nat->Int) (t:Nat):Prop where
 a:0<=f (t+16)/\f (t+16)<524288
 b:0<=f (t+17)/\f (t+17)<18446744073709551616
 c:0<=f (t+18)/\f (t+18)<268435456
 d:0<=f (t+19)/\f (t+19)<18446744073709551616
 st:f (t+16) % 8<=5
 sl:f (t+16) / 2048 % 8<=5
def Apart (t u:Nat):Prop:=t+64<=u\/u+64<=t
end Go.Ev
end
set_option linter.unusedSimpArgs false
set_option linter.unusedVariables false
set_option maxRecDepth 100000
noncomputable section
namespace Go.Ev
open Go
variable {E E':Env} {P:Program}
theorem cA {i:Nat} {x:Int} (hx:E.i i=x) (h:0<=x):(SB.cmp .lss (.v i) (.lit 0)).den E=false:=by
 show iLt (E.i i) 0=false
 rw[zbq,hx];exact decide_eq_false (by omega)
end Go.Ev
end
set_option linter.unusedSimpArgs false
set_option linter.unusedVariables false
noncomputable section
namespace Go.Ev
open Go
def hdN (l:List Nat) (n:Nat):Nat:=match l with
 | []=>n
 | t::_=>t
def laN:List Nat->Nat->Nat
 | [],p=>p
 | t::r,_=>laN r t
def Lk (f:Nat->Int):Nat->List Nat->Nat->Prop
 | _,[],_=>True
 | p,t::r,n=>(zey f t).pv=(p:Int)/\(zey f t).nx=(hdN r n:Int)/\Lk f t r n
structure Thr (T:Nat->Prop):Prop where
 lo:∀ t,T t->1024<=t
 hi:∀ t,T t->t+64<=65536
 ap:∀ t u,T t->T u->t≠u->Apart t u
structure QInv (T:Nat->Prop) (f:Nat->Int) (Q:Nat->List Nat):Prop where
 thr:∀ t,T t->RightAt f t
 el:∀ p t,p<256->t∈Q p->T t/\(zey f t).pr=(p:Int)/\(zey f t).q=true
 off:∀ t,T t->(zey f t).q=true->t∈Q (zey f t).pr.toNat
 free:∀ t,T t->(zey f t).q=false->(zey f t).pv=0/\(zey f t).nx=0
 nd:∀ p,p<256->(Q p).Nodup
 lk:∀ p,p<256->Lk f 0 (Q p) 0
 hd:∀ p,p<256->f (256+p)=(hdN (Q p) 0:Int)+(laN (Q p) 0:Int)*65536
 bm:∀ g,g<4->0<=f (8+g)/\f (8+g)<18446744073709551616/\∀ k,k<64->Nat.testBit (f (8+g)).toNat k = !(Q (64*g+k)).isEmpty
 sm:0<=f 4/\f 4<16/\∀ g,g<4->Nat.testBit (f 4).toNat g = !decide (f (8+g)=0)
variable {T:Nat->Prop} {f:Nat->Int} {Q:Nat->List Nat}
end Go.Ev
end
set_option linter.unusedSimpArgs false
set_option linter.unusedVariables false
noncomputable section
namespace Go.Ev
open Go
variable {T:Nat->Prop} {f:Nat->Int} {Q:Nat->List Nat}
structure Two (T:Nat->Prop) (f g:Nat->Int) (t:Nat) (v:TV) (P:Nat->TV->TV):Prop where
 lo:∀ i,i<1024->g i=f i
 me:zey g t=v
 ot:∀ u,T u->u≠t->zey g u=P u (zey f u)
 ri:∀ u,T u->RightAt g u
end Go.Ev
end
set_option linter.unusedSimpArgs false
set_option linter.unusedVariables false
noncomputable section
namespace Go.Ev
open Go
variable {T:Nat->Prop} {f:Nat->Int} {Q:Nat->List Nat}
inductive Top (Q:Nat->List Nat):Option Nat->Prop where
 | none:(∀ p,p<256->Q p=[])->Top Q none
 | some (p:Nat):p<256->Q p≠[]->(∀ q,p<q->q<256->Q q=[])->Top Q (some p)
end Go.Ev
end
set_option linter.unusedSimpArgs false
set_option linter.unusedVariables false
noncomputable section
namespace Go.Ev
open Go Go.RowKit
variable {E E':Env} {P:Program}
structure PEnt where
 F:Nat
 l:List V
 v:V
structure PEntOk (P:Program) (E:Env) (e:PEnt):Prop where
 bd:e.v.bd 0
 ca:yl P e.F
 ok:∀ (ρ:Rho) (w:World),Calls P e.F (γL E ρ e.l).toArray w fun ex w'=>ex=.returned (e.v.γ E ρ)/\Below w.heap.size w w'
end Go.Ev
end
set_option linter.unusedSimpArgs false
set_option linter.unusedVariables false
noncomputable section
namespace Go.Ev
open Go Go.RowKit
variable {E:Env} {P:Program}
end Go.Ev
end
set_option linter.unusedSimpArgs false
set_option linter.unusedVariables false
noncomputable section
namespace Go.Ev
open Go
variable {E:Env} {P:Program}
def tA (b:Nat) (x0 x1 x2 x3 x4 x5 x6 x7 x8 x9 x10 x11 x12 x13:V):V:=.agg [x0,x1,x2,x3,x4,x5,x6,x7,x8,x9,x10,x11,x12,x13,.si .u64 (.v (b+14)),.si .u64 (.v (b+15)),.si .u64 (.v (b+16)),.si .u64 (.v (b+17)),.si .u64 (.v (b+18)),.si .u64 (.v (b+19)),.si .u64 (.v (b+20)),.si .u64 (.v (b+21)),.si .u64 (.v (b+22)),.si .u64 (.v (b+23)),.si .u64 (.v (b+24)),.si .u64 (.v (b+25)),.si .u64 (.v (b+26)),.si .u64 (.v (b+27)),.si .u64 (.v (b+28)),.si .u64 (.v (b+29))]
end Go.Ev
end
set_option linter.unusedSimpArgs false
set_option linter.unusedVariables false
noncomputable section
namespace Go.Ev
open Go
variable {E:Env} {P:Program}
end Go.Ev
end
set_option linter.unusedSimpArgs false
set_option linter.unusedVariables false
noncomputable section
namespace Go.Ev
open Go Go.RowKit
variable {E:Env} {P:Program}
def nxS (σ:Sg) (E:Env) (x:Int) (rows:Nat->Row) (q:Nat):Row:=if q<50 then { E.s q with idx:=x.toNat } else match σ (100000+q) with
 | some (.lit (.ofNat q'))=>E.s q'
 | _=>rows q
def nxA (σ:Sg) (E:Env) (x:Int) (vs:Nat->Int) (rows:Nat->Row):Env:=⟨fun i=>match σ i with
 | some s=>s.den E
 | none=>vs i,E.b,nxS σ E x rows⟩
theorem nxA_tr (σ:Sg) (E:Env) (x:Int) (vs:Nat->Int) (rows:Nat->Row):TrE σ E (nxA σ E x vs rows):=by
 refine⟨fun i s h=>by simp[nxA,h],rfl,fun q hq=>?_,fun q q' hq h=>?_⟩
 ·show zlG (nxS σ E x rows q) _
  unfold nxS
  rw[if_pos hq]
  exact⟨rfl,rfl,rfl,rfl,rfl,rfl,rfl,rfl⟩
 ·show (nxS σ E x rows q).cs=_
  unfold nxS
  rw[if_neg (by omega),h]
end Go.Ev
end
