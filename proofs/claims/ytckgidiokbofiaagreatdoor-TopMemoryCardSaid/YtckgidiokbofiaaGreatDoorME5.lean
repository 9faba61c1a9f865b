import Derived.Test.YtckgidiokbofiaaGreatDoorME3
import Derived.Test.YtckgidiokbofiaaGreatDoorME4
import Derived.Test.YtckgidiokbofiaaGreatDoorME2
import Derived.Below
set_option linter.unusedSimpArgs false
set_option linter.unusedVariables false
noncomputable section
namespace Go.Ev
open Go
inductive Pa where
 | w (k:IntKind) (s:Nat) | i (k:IntKind) (n:Int) | b (x:Bool)
inductive PA where
 | one (p:Pa) | agg (l:List Pa)
inductive RS where
 | i (k:IntKind) (n:Int) | s (k:IntKind) (e:SE) | b (x:Bool) | c (c:SB)
inductive RA where
 | one (r:RS) | agg (l:List RS)
inductive RR where
 | one (a:RA) | tup (l:List RA)
def Pa.v:Pa->V
 | .w k s=>.si k (.v s) | .i k n=>.i k n | .b x=>.b x
def zf9 {α:Type} (f:α->V):List α->List V
 | []=>[]
 | x::r=>f x::zf9 f r
def PA.v:PA->V
 | .one p=>p.v | .agg l=>.agg (zf9 Pa.v l)
def RS.v:RS->V
 | .i k n=>.i k n | .s k e=>.si k e | .b x=>.b x | .c d=>.sb d
def RA.v:RA->V
 | .one r=>r.v | .agg l=>.agg (zf9 RS.v l)
def RR.v:RR->V
 | .one a=>a.v | .tup l=>.tup (zf9 RA.v l)
structure Sm where
 l:List PA
 rd:List (Nat × Nat)
 fa:List (SB × Bool)
 v:RR
 wr:List (Nat × RS)
 st:Nat
structure MC where
 tM:Nat
 tA:Nat
 N:Nat
abbrev Sl:=List (Nat × SE)
def zev:List (Nat × Nat)->Tr V
 | []=>.nil
 | (a,s)::r=>(zev r).set 13 a (.si .u64 (.v s))
def trWr:Tr V->List (Nat × RS)->Tr V
 | tr,[]=>tr
 | tr,(a,v)::r=>trWr (tr.set 13 a v.v) r
def hPat (c:MC) (s:Sm):H:=⟨.i .h,.h,((PT.e:PT O).set .h (.oa c.tA 7 c.N 13 (zev s.rd))).set (.o .h) (.cells c.tM [.sl .h 0 c.N c.N,.si .i64 (.v 5)])⟩
def stP (k:Nat):SE:=bc (Nat.beq k 0) (.v 5) (.op .add .i64 (.v 5) (.lit k))
def Sm.ok (c:MC) (s:Sm):K:=fun v h _=>bc (V.beq v s.v.v) (bc (zaH (h.t.get .h) (some (.oa c.tA 7 c.N 13 (trWr (zev s.rd) s.wr)))) (bc (zaH (h.t.get (.o .h)) (some (.cells c.tM [.sl .h 0 c.N c.N,.si .i64 (stP s.st)]))) 0 1) 1) 1
def Sm.args (s:Sm):List V:=.ptr (.o .h) 0::zf9 PA.v s.l
def Sm.run (c:MC) (F:Nat) (s:Sm) (call:zy):Nat:=call F s.args (hPat c s) ⟨s.fa,[]⟩ (s.ok c)
def Sm.wf (c:MC) (s:Sm):Bool:=Nat.ble c.N 8192 && yP (fun p:Nat × Nat=>Nat.blt p.1 c.N) s.rd && yP (fun p:Nat × RS=>Nat.blt p.1 c.N) s.wr
--@SM
def lkN:Nat->Option SE:=fun _=>none
def lkC (p:Nat × SE) (_:Sl) (ih:Nat->Option SE):Nat->Option SE:=fun i=>pc p (fun j e=>bc (Nat.beq i j) (some e) (ih i))
def lk (σ:Sl):Nat->Option SE:=yC lkN lkC σ
def zfB (e:SE):Option Int:=SE.rec (motive:=fun _=>Option Int) (fun _=>none) (fun n=>some n) (fun _ _ _ _ _ _=>none) (fun _ _ _=>none) (fun _ _ _ _ _=>none) e
def arF (o:BinOp):IntKind->Int->Int->Option Int:=BinOp.go (fun k x y=>some (fAdd k x y)) (fun k x y=>some (fSub k x y)) (fun k x y=>some (fMul k x y)) (fun k x y=>some (fQuo k x y)) (fun k x y=>some (fRem k x y)) (fun k x y=>some (fAnd k x y)) (fun k x y=>some (fOr k x y)) (fun k x y=>some (fXor k x y)) (fun k x y=>some (fShl k x y)) (fun k x y=>some (fShr k x y)) (fun k x y=>some (zeR k x y))
 (fun _ _ _=>none) (fun _ _ _=>none) (fun _ _ _=>none) (fun _ _ _=>none) (fun _ _ _=>none) (fun _ _ _=>none) o
def nrmE (fa:Fa) (e:SE):SE:=oc (zdJ fa.l e) (fun n=>.lit n) (oc (zeh fa.l e) (fun s=>s) (zdi e))
def opS (fa:Fa) (o:BinOp) (k:IntKind) (a b:SE):SE:=oc (zfB a) (fun x=>oc (zfB b) (fun y=>oc (arF o k x y) (fun n=>.lit n) (nrmE fa (.op o k a b))) (nrmE fa (.op o k a b))) (nrmE fa (.op o k a b))
def cvS (fa:Fa) (k:IntKind) (a:SE):SE:=oc (zfB a) (fun x=>.lit (jS k x)) (nrmE fa (.cv k a))
def sbN (fa:Fa) (σ:Sl) (e:SE):Option SE:=SE.rec (motive:=fun _=>Option SE) (fun i=>lk σ i) (fun n=>some (.lit n)) (fun o k _ _ x y=>oc x (fun a=>oc y (fun b=>some (opS fa o k a b)) none) none) (fun k _ x=>oc x (fun a=>some (cvS fa k a)) none) (fun _ _ _ _ _=>none) e
def cmF (o:BinOp) (x y:Int):Option Bool:=zbs o x y
def cmS (fa:Fa) (o:BinOp) (a b:SE):V:=oc (zfB a) (fun x=>oc (zfB b) (fun y=>oc (cmF o x y) (fun t=>.b t) (.sb (.cmp o a b))) (oc (SB.ask fa (.cmp o a b)) (fun t=>.b t) (.sb (.cmp o a b)))) (oc (SB.ask fa (.cmp o a b)) (fun t=>.b t) (.sb (.cmp o a b)))
def vBS {σ:Type} (x:V) (f:Bool->σ) (g:SB->σ) (e:σ):σ:=match x with
 | .b b=>f b
 | .sb c=>g c
 | _=>e
def noS (x:V):Option V:=vBS x (fun b=>some (.b (!b))) (fun c=>some (.sb (.not c))) none
def anS (x y:V):Option V:=vBS x (fun a=>bc a (some y) (some (.b false))) (fun c=>vBS y (fun b=>bc b (some (.sb c)) (some (.b false))) (fun d=>some (.sb (.and c d))) none) none
def sbC (fa:Fa) (σ:Sl) (c:SB):Option V:=SB.rec (motive:=fun _=>Option V) (fun _=>none) (fun o a b=>oc (sbN fa σ a) (fun a=>oc (sbN fa σ b) (fun b=>some (cmS fa o a b)) none) none) (fun _ x=>oc x noS none) (fun _ _ x y=>oc x (fun a=>oc y (fun b=>anS a b) none) none) c
def rsE (fa:Fa) (σ:Sl) (r:RS):Option V:=RS.rec (motive:=fun _=>Option V) (fun k n=>some (.i k n)) (fun k e=>oc (sbN fa σ e) (fun u=>some (mkE k u)) none) (fun x=>some (.b x)) (fun c=>sbC fa σ c) r
def mapO {α:Type} (f:α->Option V) (l:List α):Option (List V):=yC (some []) (fun x _ ih=>oc (f x) (fun v=>oc ih (fun r=>some (v::r)) none) none) l
def raE (fa:Fa) (σ:Sl) (r:RA):Option V:=RA.rec (motive:=fun _=>Option V) (fun r=>rsE fa σ r) (fun l=>oc (mapO (rsE fa σ) l) (fun l=>some (.agg l)) none) r
def rrE (fa:Fa) (σ:Sl) (r:RR):Option V:=RR.rec (motive:=fun _=>Option V) (fun r=>raE fa σ r) (fun l=>oc (mapO (raE fa σ) l) (fun l=>some (.tup l)) none) r
def vIK {σ:Type} (x:V) (f:IntKind->SE->σ) (e:σ):σ:=match x with
 | .i k n=>f k (.lit n)
 | .si k s=>f k s
 | _=>e
def vBo {σ:Type} (x:V) (f:Bool->σ) (e:σ):σ:=match x with
 | .b b=>f b
 | _=>e
def paW (kd:IntKind) (s:Nat):V->Sl->Option Sl:=fun x σ=>vIK x (fun k e=>bc (kEq kd k) (some ((s,e)::σ)) none) none
def paI (kd:IntKind) (n:Int):V->Sl->Option Sl:=fun x σ=>zbu x (fun k m=>bc (kEq kd k) (bc (iEq n m) (some σ) none) none) none
def paB (b:Bool):V->Sl->Option Sl:=fun x σ=>vBo x (fun c=>bc (zmg b c) (some σ) none) none
def paM (p:Pa):V->Sl->Option Sl:=Pa.rec (motive:=fun _=>V->Sl->Option Sl) paW paI paB p
def mtN:List V->Sl->Option Sl:=fun xs σ=>jM (some σ) (fun _ _=>none) xs
def mtC {α:Type} (f:α->V->Sl->Option Sl) (p:α) (_:List α) (ih:List V->Sl->Option Sl):List V->Sl->Option Sl:=fun xs σ=>jM none (fun x r=>oc (f p x σ) (fun σ=>ih r σ) none) xs
def mtL {α:Type} (f:α->V->Sl->Option Sl) (l:List α):List V->Sl->Option Sl:=yC mtN (mtC f) l
def paA (p:PA):V->Sl->Option Sl:=PA.rec (motive:=fun _=>V->Sl->Option Sl) paM (fun l x σ=>vAgg (some x) (fun xs=>mtL paM l xs σ) none) p
def rdC (z:V) (tr:Tr V) (p:Nat × Nat) (_:List (Nat × Nat)) (ih:Sl->Option Sl):Sl->Option Sl:=fun σ=>pc p (fun a s=>vIK (oc (tr.get 13 a) (fun v=>v) z) (fun k e=>bc (kEq .u64 k) (ih ((s,e)::σ)) none) none)
def rdT (z:V) (tr:Tr V) (l:List (Nat × Nat)):Sl->Option Sl:=yC (fun σ=>some σ) (rdC z tr) l
def cnT (fa:Fa) (σ:Sl) (l:List (SB × Bool)):Bool:=yP (fun p:SB × Bool=>pc p (fun c b=>oc (sbC fa σ c) (fun v=>vBo v (fun x=>zmg x b) false) false)) l
def wrC (fa:Fa) (σ:Sl) (p:Nat × RS) (_:List (Nat × RS)) (ih:Tr V->Option (Tr V)):Tr V->Option (Tr V):=fun tr=>pc p (fun a v=>oc (rsE fa σ v) (fun u=>zaK tr 13 a u (fun tr=>ih tr)) none)
def wrT (fa:Fa) (σ:Sl) (l:List (Nat × RS)):Tr V->Option (Tr V):=yC (fun tr=>some tr) (wrC fa σ) l
--@SE
def memO {σ:Type} (o:O) (f:TypeId->Ev.P->Nat->Nat->SE->σ) (e:σ):σ:=match o with
 | .cells t [.sl id 0 n m,.i .i64 s]=>f t id n m (.lit s)
 | .cells t [.sl id 0 n m,.si .i64 s]=>f t id n m s
 | _=>e
def arrO {σ:Type} (o:O) (f:TypeId->Nat->Nat->V->Tr V->σ) (e:σ):σ:=match o with
 | .arr t n d z tr=>f t n d z tr
 | _=>e
structure AR where
 m:Ev.P
 id:Ev.P
 om:O
 oi:O
 v:V
def stO (fa:Fa) (e:SE) (k:Nat):V:=bc (Nat.beq k 0) (mkE .i64 e) (mkE .i64 (opS fa .add .i64 e (.lit k)))
def Sm.app2 (c:MC) (s:Sm) (fa:Fa) (m id:Ev.P) (t:TypeId) (n:Nat) (z:V) (tr:Tr V) (st:SE) (σ:Sl):Option AR:=
 bc (cnT fa σ s.fa) (oc (rrE fa σ s.v) (fun v=>oc (wrT fa σ s.wr tr) (fun tr'=>some ⟨m,id,.cells c.tM [.sl id 0 n n,stO fa st s.st],.arr t n 13 z tr',v⟩) none) none) none
def Sm.app1 (c:MC) (s:Sm) (h:H) (fa:Fa) (r:List V) (m:Ev.P):Option AR:=
 bc (zaI h m) (oc (ya h m) (fun o=>memO o (fun tm id n n' st=>bc (Nat.beq tm c.tM && Nat.beq n c.N && Nat.beq n' c.N && zaI h id) (oc (ya h id) (fun oi=>arrO oi (fun ta n2 d z tr=>
  bc (Nat.beq ta c.tA && Nat.beq n2 c.N && Nat.beq d 13) (oc (mtL paA s.l r [(5,st)]) (fun σ=>oc (rdT z tr s.rd σ) (fun σ=>s.app2 c fa m id ta n z tr st σ) none) none) none) none) none) none) none) none) none
def Sm.app (c:MC) (s:Sm) (l:List V) (h:H) (fa:Fa):Option AR:=
 jM none (fun x r=>zak (some x) (fun m off=>bc (Nat.beq off 0) (s.app1 c h fa r m) none) none) l
def AR.go {σ:Type} (x:AR) (f:Ev.P->Ev.P->O->O->V->σ):σ:=AR.rec (motive:=fun _=>σ) f x
def smTry (c:MC) (ss:List Sm) (l:List V) (h:H) (fa:Fa) (k:K) (e:Nat):Nat:=
 yC e (fun s _ ih=>oc (s.app c l h fa) (fun x=>x.go (fun m id om oi v=>hc h (fun n lo t=>zbo m t om (fun t=>zbo id t oi (fun t=>k v ⟨n,lo,t⟩ fa))))) ih) ss
def zan (c:MC) (ss:List V->List Sm) (F:Nat) (call:zy):List V->H->Fa->K->Nat:=fun l h fa k=>smTry c (ss l) l h fa k (call F l h fa k)
end Go.Ev
end
set_option linter.unusedSimpArgs false
set_option linter.unusedVariables false
noncomputable section
namespace Go.Ev
open Go
variable {E E':Env} {P:Program}
theorem yX {α β:Type} {x:Option α} {f:α->Option β} {r:β} (h:oc x f none=some r):∃ v,x=some v/\f v=some r:=by
 cases x with
 | none=>cases h
 | some v=>exact⟨v,rfl,h⟩
theorem jr {β:Type} {x:Bool} {a:Option β} {r:β} (h:bc x a none=some r):x=true/\a=some r:=by
 cases x with
 | false=>cases h
 | true=>exact⟨rfl,h⟩
theorem zdy {a:SE} {x:Int} (h:zfB a=some x):a=.lit x:=by
 cases a <;> first | (have h:=Option.some.inj h;rw[h]) | (cases h)
theorem zeO {fa:Fa} (hf:FaOk E fa) (e:SE):(nrmE fa e).den E=e.den E:=by
 unfold nrmE
 cases h:zdJ fa.l e with
 | some n=>exact(zeY hf.l _ (fun _ h=>h) h).symm
 | none=>
  cases h2:zeh fa.l e with
  | some s=>exact zmj hf.l _ (fun _ h=>h) h2
  | none=>exact zgh e
theorem arF_ok {o:BinOp} {k:IntKind} {x y n:Int} (h:arF o k x y=some n):n=arS o k x y:=by
 cases o <;> first
  | (cases h;done)
  | (have h:=Option.some.inj h;subst h;first
    | rfl
    | (rw[zwP];simp[arS,arI,dvI,shI,z6])
    | (rw[zwO];simp[arS,arI,dvI,shI]))
theorem zlP {fa:Fa} (hf:FaOk E fa) (o:BinOp) (k:IntKind) (a b:SE):(opS fa o k a b).den E=arS o k (a.den E) (b.den E):=by
 unfold opS
 cases h1:zfB a with
 | none=>exact zeO hf _
 | some x=>
  cases h2:zfB b with
  | none=>exact zeO hf _
  | some y=>
   show (oc (arF o k x y) (fun n=>SE.lit n) (nrmE fa (.op o k a b))).den E=_
   cases h3:arF o k x y with
   | none=>exact zeO hf _
   | some n=>
    rw[zdy h1,zdy h2]
    exact arF_ok h3
theorem cvS_ok {fa:Fa} (hf:FaOk E fa) (k:IntKind) (a:SE):(cvS fa k a).den E=k.wrap (a.den E):=by
 unfold cvS
 cases h1:zfB a with
 | none=>exact zeO hf _
 | some x=>
  rw[zdy h1]
  exact z6 _ _
theorem zuP {fa:Fa} (hf:FaOk E fa) {σ:Sl} (hσ:∀ i u,lk σ i=some u->u.den E=E'.i i):∀ (e u:SE),sbN fa σ e=some u->u.den E=e.den E':=by
 intro e
 induction e with
 | v i=>exact fun u h=>hσ i u h
 | lit n=>exact fun u h=>by have h:=Option.some.inj h;subst h;rfl
 | op o k a b iha ihb=>
  intro u h
  obtain⟨x,h1,h⟩:=yX (show oc (sbN fa σ a) _ none=some u from h)
  obtain⟨y,h2,h⟩:=yX (show oc (sbN fa σ b) _ none=some u from h)
  have h:=Option.some.inj h
  subst h
  rw[zlP hf,iha x h1,ihb y h2]
  rfl
 | cv k a iha=>
  intro u h
  obtain⟨x,h1,h⟩:=yX (show oc (sbN fa σ a) _ none=some u from h)
  have h:=Option.some.inj h
  subst h
  rw[cvS_ok hf,iha x h1]
  rfl
 | mm x a b _ _=>exact fun u h=>by cases h
theorem ask_b {fa:Fa} (hf:FaOk E fa) (c:SB) (ρ:Rho):(oc (SB.ask fa c) (fun t=>V.b t) (V.sb c)).γ E ρ=.bool (c.den E)/\(oc (SB.ask fa c) (fun t=>V.b t) (V.sb c)).bd 0:=by
 cases h:SB.ask fa c with
 | none=>exact⟨rfl,trivial⟩
 | some t=>exact⟨by show Value.bool t=_;rw[SB.ask_ok hf c t h],trivial⟩
theorem cmS_ok {fa:Fa} (hf:FaOk E fa) (o:BinOp) (a b:SE) (ρ:Rho):(cmS fa o a b).γ E ρ=.bool ((zbs o (a.den E) (b.den E)).getD false)/\(cmS fa o a b).bd 0:=by
 unfold cmS
 cases h1:zfB a with
 | none=>exact ask_b hf _ ρ
 | some x=>
  cases h2:zfB b with
  | none=>exact ask_b hf _ ρ
  | some y=>
   show (oc (cmF o x y) (fun t=>V.b t) (V.sb (.cmp o a b))).γ E ρ=_/\(oc (cmF o x y) (fun t=>V.b t) (V.sb (.cmp o a b))).bd 0
   rw[zdy h1,zdy h2]
   cases h3:cmF o x y with
   | none=>exact⟨rfl,trivial⟩
   | some t=>
    refine⟨?_,trivial⟩
    show Value.bool t=.bool ((zbs o x y).getD false)
    rw[show zbs o x y=some t from h3];rfl
theorem noS_ok {x v:V} {t:Bool} {ρ:Rho} (h:noS x=some v) (hx:x.γ E ρ=.bool t):v.γ E ρ=.bool (!t)/\v.bd 0:=by
 cases x <;> first | (cases h;done) | skip
 ·have h:=Option.some.inj h;subst h
  have hx:Value.bool _=.bool t:=hx
  injection hx with hx
  subst hx
  exact⟨rfl,trivial⟩
 ·have h:=Option.some.inj h;subst h
  have hx:Value.bool _=.bool t:=hx
  injection hx with hx
  subst hx
  exact⟨rfl,trivial⟩
theorem anS_ok {x y v:V} {t u:Bool} {ρ:Rho} (h:anS x y=some v) (hx:x.γ E ρ=.bool t) (hy:y.γ E ρ=.bool u) (hb:y.bd 0):v.γ E ρ=.bool (t && u)/\v.bd 0:=by
 cases x <;> first | (cases h;done) | skip
 ·rename_i a
  have hx:Value.bool a=.bool t:=hx
  injection hx with hx
  subst hx
  cases a with
  | true=>
   have h:some y=some v:=h
   have h:=Option.some.inj h;subst h
   exact⟨hy,hb⟩
  | false=>
   have h:some (V.b false)=some v:=h
   have h:=Option.some.inj h;subst h
   exact⟨rfl,trivial⟩
 ·rename_i c
  have hx:Value.bool (c.den E)=.bool t:=hx
  injection hx with hx
  cases y <;> first | (cases h;done) | skip
  ·rename_i b
   have hy:Value.bool b=.bool u:=hy
   injection hy with hy
   subst hy
   cases b with
   | true=>
    have h:some (V.sb c)=some v:=h
    have h:=Option.some.inj h;subst h
    exact⟨by show Value.bool _=_;rw[hx,Bool.and_true],trivial⟩
   | false=>
    have h:some (V.b false)=some v:=h
    have h:=Option.some.inj h;subst h
    exact⟨by show Value.bool _=_;rw[Bool.and_false],trivial⟩
  ·rename_i d
   have hy:Value.bool (d.den E)=.bool u:=hy
   injection hy with hy
   have h:some (V.sb (.and c d))=some v:=h
   have h:=Option.some.inj h;subst h
   exact⟨by show Value.bool (c.den E && d.den E)=_;rw[hx,hy],trivial⟩
theorem sbC_ok {fa:Fa} (hf:FaOk E fa) {σ:Sl} (hσ:∀ i u,lk σ i=some u->u.den E=E'.i i) (ρ:Rho):∀ (c:SB) (v:V),sbC fa σ c=some v->v.γ E ρ=.bool (c.den E')/\v.bd 0:=by
 intro c
 induction c with
 | v i=>exact fun v h=>by cases h
 | cmp o a b=>
  intro v h
  obtain⟨x,h1,h⟩:=yX (show oc (sbN fa σ a) _ none=some v from h)
  obtain⟨y,h2,h⟩:=yX (show oc (sbN fa σ b) _ none=some v from h)
  have h:=Option.some.inj h
  subst h
  have:=cmS_ok hf o x y ρ
  rw[zuP hf hσ a x h1,zuP hf hσ b y h2]at this
  exact this
 | not a ih=>
  intro v h
  obtain⟨x,h1,h⟩:=yX (show oc (sbC fa σ a) noS none=some v from h)
  exact noS_ok h (ih x h1).1
 | and a b iha ihb=>
  intro v h
  obtain⟨x,h1,h⟩:=yX (show oc (sbC fa σ a) _ none=some v from h)
  obtain⟨y,h2,h⟩:=yX (show oc (sbC fa σ b) _ none=some v from h)
  exact anS_ok h (iha x h1).1 (ihb y h2).1 (ihb y h2).2
theorem zbx (k:IntKind) (u:SE) (ρ:Rho):(mkE k u).γ E ρ=.int k (u.den E)/\(mkE k u).bd 0:=by
 cases u <;> exact⟨rfl,trivial⟩
theorem zfj {fa:Fa} (hf:FaOk E fa) {σ:Sl} (hσ:∀ i u,lk σ i=some u->u.den E=E'.i i) (ρ ρ':Rho):∀ (r:RS) (v:V),rsE fa σ r=some v->v.γ E ρ=r.v.γ E' ρ'/\v.bd 0
 | .i k n,v,h=>by have h:=Option.some.inj h;subst h;exact⟨rfl,trivial⟩
 | .s k e,v,h=>by
  obtain⟨x,h1,h⟩:=yX (show oc (sbN fa σ e) _ none=some v from h)
  have h:=Option.some.inj h
  subst h
  have:=zbx (E:=E) k x ρ
  rw[zuP hf hσ e x h1]at this
  exact this
 | .b x,v,h=>by have h:=Option.some.inj h;subst h;exact⟨rfl,trivial⟩
 | .c d,v,h=>sbC_ok hf hσ ρ d v h
theorem zlV {α:Type} {f:α->Option V} {g:α->V} {ρ ρ':Rho} (hg:∀ x v,f x=some v->v.γ E ρ=(g x).γ E' ρ'/\v.bd 0):∀ (l:List α) (vs:List V),mapO f l=some vs->γL E ρ vs=γL E' ρ' (zf9 g l)/\bdL 0 vs
 | [],vs,h=>by have h:=Option.some.inj h;subst h;exact⟨rfl,trivial⟩
 | x::r,vs,h=>by
  obtain⟨v,h1,h⟩:=yX (show oc (f x) _ none=some vs from h)
  obtain⟨us,h2,h⟩:=yX (show oc (mapO f r) _ none=some vs from h)
  have h:=Option.some.inj h
  subst h
  obtain⟨g1,g2⟩:=hg x v h1
  obtain⟨g3,g4⟩:=zlV hg r us h2
  exact⟨by show _::_=_::_;rw[g1,g3],g2,g4⟩
theorem raE_ok {fa:Fa} (hf:FaOk E fa) {σ:Sl} (hσ:∀ i u,lk σ i=some u->u.den E=E'.i i) (ρ ρ':Rho):∀ (r:RA) (v:V),raE fa σ r=some v->v.γ E ρ=r.v.γ E' ρ'/\v.bd 0
 | .one r,v,h=>zfj hf hσ ρ ρ' r v h
 | .agg l,v,h=>by
  obtain⟨us,h2,h⟩:=yX (show oc (mapO (rsE fa σ) l) _ none=some v from h)
  have h:=Option.some.inj h
  subst h
  obtain⟨g3,g4⟩:=zlV (g:=RS.v) (zfj hf hσ ρ ρ') l us h2
  exact⟨by show Value.agg _=Value.agg _;rw[g3],g4⟩
theorem zlF {fa:Fa} (hf:FaOk E fa) {σ:Sl} (hσ:∀ i u,lk σ i=some u->u.den E=E'.i i) (ρ ρ':Rho):∀ (r:RR) (v:V),rrE fa σ r=some v->v.γ E ρ=r.v.γ E' ρ'/\v.bd 0
 | .one r,v,h=>raE_ok hf hσ ρ ρ' r v h
 | .tup l,v,h=>by
  obtain⟨us,h2,h⟩:=yX (show oc (mapO (raE fa σ) l) _ none=some v from h)
  have h:=Option.some.inj h
  subst h
  obtain⟨g3,g4⟩:=zlV (g:=RA.v) (raE_ok hf hσ ρ ρ') l us h2
  exact⟨by show Value.tuple _=Value.tuple _;rw[g3],g4⟩
def Hold (E E':Env) (σ:Sl):Prop:=∀ q∈σ,E'.i q.1=q.2.den E
def zbj (σ:Sl):List Nat:=σ.map Prod.fst
def symM:Pa->List Nat->List Nat
 | .w _ s,a=>s::a
 | _,a=>a
def symL {α:Type} (f:α->List Nat->List Nat):List α->List Nat->List Nat
 | [],a=>a
 | x::r,a=>symL f r (f x a)
def symA:PA->List Nat->List Nat
 | .one p,a=>symM p a
 | .agg l,a=>symL symM l a
def symR:List (Nat × Nat)->List Nat->List Nat
 | [],a=>a
 | (_,s)::r,a=>symR r (s::a)
def Sm.syms (s:Sm):List Nat:=symR s.rd (symL symA s.l [5])
def inN (a:Nat):List Nat->Bool
 | []=>false
 | b::r=>bc (Nat.beq a b) true (inN a r)
def ndB:List Nat->Bool
 | []=>true
 | a::r=>bc (inN a r) false (ndB r)
theorem inN_ok {a:Nat}:∀ {l:List Nat},inN a l=false->a∉l
 | [],h=>by simp
 | b::r,h=>by
  have h:bc (Nat.beq a b) true (inN a r)=false:=h
  cases e:Nat.beq a b with
  | true=>rw[e]at h;cases h
  | false=>
   rw[e]at h
   have h:inN a r=false:=h
   have e:a≠b:=by intro e2;subst e2;simp at e
   simp[e,inN_ok h]
theorem ndB_ok:∀ {l:List Nat},ndB l=true->l.Nodup
 | [],h=>List.nodup_nil
 | a::r,h=>by
  have h:bc (inN a r) false (ndB r)=true:=h
  cases e:inN a r with
  | true=>rw[e]at h;cases h
  | false=>
   rw[e]at h
   exact List.nodup_cons.2 ⟨inN_ok e,ndB_ok h⟩
def zi0 (E:Env) (σ:Sl) (cs:Array Value) (tA:Nat):Env:=⟨fun i=>match lk σ i with
 | some e=>e.den E
 | none=>0,E.b,fun q=>if q=7 then ⟨0,0,0,0,0,0,tA,cs,(0,0)⟩ else E.s q⟩
theorem lk_mem {i:Nat} {e:SE}:∀ {σ:Sl},(zbj σ).Nodup->(i,e)∈σ->lk σ i=some e
 | [],_,h=>by cases h
 | (j,u)::r,hn,h=>by
  have hn:=List.nodup_cons.1 hn
  show bc (Nat.beq i j) (some u) (lk r i)=some e
  rcases List.mem_cons.1 h with g | g
  ·cases g
   rw[show Nat.beq i i=true by simp];rfl
  ·have:Nat.beq i j=false:=by
    rw[Bool.eq_false_iff]
    intro hb
    have hb:i=j:=by simpa using hb
    exact hn.1 (List.mem_map.2 ⟨_,g,hb⟩)
   rw[this]
   exact lk_mem hn.2 g
theorem zAK {σ:Sl} {cs:Array Value} {tA:Nat} (hn:(zbj σ).Nodup):Hold E (zi0 E σ cs tA) σ:=by
 rintro ⟨i,e⟩ h
 show (match lk σ i with | some e=>e.den E | none=>0)=e.den E
 rw[lk_mem hn h]
theorem zvj {σ:Sl} {cs:Array Value} {tA:Nat} (i:Nat) (u:SE) (h:lk σ i=some u):u.den E=(zi0 E σ cs tA).i i:=by
 show _=(match lk σ i with | some e=>e.den E | none=>0)
 rw[h]
def MtOk (E E':Env) (ρ ρ':Rho) (x p:V) (σ σ':Sl):Prop:=Hold E E' σ'->Hold E E' σ/\x.γ E ρ=p.γ E' ρ'
theorem zuK {β:Type} {x:V} {f:IntKind->SE->Option β} {r:β} (h:vIK x f none=some r):∃ k e,f k e=some r/\(∀ E ρ,x.γ E ρ=.int k (e.den E)):=by
 cases x <;> first | (cases h;done) | exact⟨_,_,h,fun _ _=>rfl⟩
theorem paM_ok (ρ ρ':Rho):∀ (p:Pa) (x:V) (σ σ':Sl),paM p x σ=some σ'->MtOk E E' ρ ρ' x p.v σ σ'/\zbj σ'=symM p (zbj σ)
 | .w kd s,x,σ,σ',h=>by
  obtain⟨k,e,h1,hx⟩:=zuK (show vIK x (fun k e=>bc (kEq kd k) (some ((s,e)::σ)) none) none=some σ' from h)
  obtain⟨hk,h2⟩:=jr h1
  have hk':=yn hk
  subst hk'
  have h3:=Option.some.inj h2
  subst h3
  refine⟨fun hh=>⟨fun q hq=>hh q (List.mem_cons_of_mem _ hq),?_⟩,rfl⟩
  rw[hx]
  show _=Value.int kd (E'.i s)
  rw[hh (s,e) (List.mem_cons_self ..)]
 | .i kd n,x,σ,σ',h=>by
  have h:zbu x (fun k m=>bc (kEq kd k) (bc (iEq n m) (some σ) none) none) none=some σ':=h
  cases x <;> first | (cases h;done) | skip
  obtain⟨hk,h1⟩:=jr h
  obtain⟨hn,h2⟩:=jr h1
  have hk':=yn hk
  rw[jb]at hn
  have hn':=of_decide_eq_true hn
  have h3:=Option.some.inj h2
  subst h3;subst hk';subst hn'
  exact⟨fun hh=>⟨hh,rfl⟩,rfl⟩
 | .b b,x,σ,σ',h=>by
  have h:vBo x (fun c=>bc (zmg b c) (some σ) none) none=some σ':=h
  cases x <;> first | (cases h;done) | skip
  obtain⟨hk,h1⟩:=jr h
  have hk':=zeU hk
  have h3:=Option.some.inj h1
  subst h3;subst hk'
  exact⟨fun hh=>⟨hh,rfl⟩,rfl⟩
theorem zlS {α:Type} {f:α->V->Sl->Option Sl} {g:α->V} {sy:α->List Nat->List Nat} (ρ ρ':Rho) (hf:∀ p x σ σ',f p x σ=some σ'->MtOk E E' ρ ρ' x (g p) σ σ'/\zbj σ'=sy p (zbj σ)) :
  ∀ (l:List α) (xs:List V) (σ σ':Sl),mtL f l xs σ=some σ'->(Hold E E' σ'->Hold E E' σ/\γL E ρ xs=γL E' ρ' (zf9 g l))/\zbj σ'=symL sy l (zbj σ)
 | [],xs,σ,σ',h=>by
  have h:jM (some σ) (fun _ _=>none) xs=some σ':=h
  cases xs with
  | cons a r=>cases h
  | nil=>
   have h:=Option.some.inj h
   subst h
   exact⟨fun hh=>⟨hh,rfl⟩,rfl⟩
 | p::l,xs,σ,σ',h=>by
  have h:jM none (fun x r=>oc (f p x σ) (fun σ=>mtL f l r σ) none) xs=some σ':=h
  cases xs with
  | nil=>cases h
  | cons x r=>
   obtain⟨σ1,h1,h⟩:=yX (show oc (f p x σ) (fun σ=>mtL f l r σ) none=some σ' from h)
   obtain⟨g1,g2⟩:=hf p x σ σ1 h1
   obtain⟨g3,g4⟩:=zlS ρ ρ' hf l r σ1 σ' h
   refine⟨fun hh=>?_,by rw[g4,g2];rfl⟩
   obtain⟨k1,k2⟩:=g3 hh
   obtain⟨k3,k4⟩:=g1 k1
   exact⟨k3,by show _::_=_::_;rw[k2,k4]⟩
theorem paA_ok (ρ ρ':Rho):∀ (p:PA) (x:V) (σ σ':Sl),paA p x σ=some σ'->MtOk E E' ρ ρ' x p.v σ σ'/\zbj σ'=symA p (zbj σ)
 | .one p,x,σ,σ',h=>paM_ok ρ ρ' p x σ σ' h
 | .agg l,x,σ,σ',h=>by
  have h:vAgg (some x) (fun xs=>mtL paM l xs σ) none=some σ':=h
  obtain⟨xs,rfl,h⟩:∃ xs,x=.agg xs/\mtL paM l xs σ=some σ':=by
   cases x <;> first | (cases h;done) | exact⟨_,rfl,h⟩
  obtain⟨g1,g2⟩:=zlS (E:=E) (E':=E') (g:=Pa.v) (sy:=symM) ρ ρ' (paM_ok ρ ρ') l xs σ σ' h
  refine⟨fun hh=>?_,g2⟩
  obtain⟨k1,k2⟩:=g1 hh
  exact⟨k1,by show Value.agg _=Value.agg _;rw[k2]⟩
theorem zva (ρ:Rho) {z:V} {tr:Tr V}:∀ (l:List (Nat × Nat)) (σ σ':Sl),rdT z tr l σ=some σ'->(Hold E E' σ'->Hold E E' σ/\∀ q∈l,(yH tr 13 z q.1).γ E ρ=.int .u64 (E'.i q.2))/\zbj σ'=symR l (zbj σ)
 | [],σ,σ',h=>by
  have h:=Option.some.inj h
  subst h
  exact⟨fun hh=>⟨hh,fun q hq=>by cases hq⟩,rfl⟩
 | (a,s)::l,σ,σ',h=>by
  obtain⟨k,e,h,hx⟩:=zuK (show vIK (oc (tr.get 13 a) (fun v=>v) z) (fun k e=>bc (kEq .u64 k) (rdT z tr l ((s,e)::σ)) none) none=some σ' from h)
  obtain⟨hk,h⟩:=jr h
  have hk:=yn hk
  subst hk
  obtain⟨g1,g2⟩:=zva ρ l _ σ' h
  refine⟨fun hh=>?_,g2⟩
  obtain⟨k1,k2⟩:=g1 hh
  refine⟨fun q hq=>k1 q (List.mem_cons_of_mem _ hq),fun q hq=>?_⟩
  rcases List.mem_cons.1 hq with rfl | hq
  ·have e1:yH tr 13 z a=oc (tr.get 13 a) (fun v=>v) z:=by
    unfold yH
    cases tr.get 13 a <;> rfl
   show (yH tr 13 z a).γ E ρ=.int .u64 (E'.i s)
   rw[e1,hx,k1 (s,e) (List.mem_cons_self ..)]
  ·exact k2 q hq
theorem zvE {fa:Fa} (hf:FaOk E fa) {σ:Sl} (hσ:∀ i u,lk σ i=some u->u.den E=E'.i i) {l:List (SB × Bool)} (h:cnT fa σ l=true):FaOk E' ⟨l,[]⟩:=by
 refine⟨fun c b hm=>?_,fun _ _ _ hm=>by cases hm⟩
 have:=jA h _ hm
 have this:oc (sbC fa σ c) (fun v=>vBo v (fun x=>zmg x b) false) false=true:=this
 cases hs:sbC fa σ c with
 | none=>rw[hs]at this;cases this
 | some v=>
  rw[hs]at this
  have this:vBo v (fun x=>zmg x b) false=true:=this
  obtain⟨g,_⟩:=sbC_ok hf hσ (fun _=>⟨0,0⟩) c v hs
  cases v <;> first | (cases this;done) | skip
  have:=zeU this
  subst this
  have g:Value.bool _=.bool (c.den E'):=g
  injection g with g
  exact g.symm
theorem zda {a:Nat} {v:V} (ha:a<8192):∀ {l:List (Nat × Nat)},(∀ q∈l,q.1<8192)->(zev l).get 13 a=some v->∃ s,(a,s)∈l/\v=.si .u64 (.v s)
 | [],_,h=>by rw[show zev []=.nil from rfl,Tr.get_nil]at h;cases h
 | (b,s)::l,hl,h=>by
  rw[show zev ((b,s)::l)=(zev l).set 13 b (.si .u64 (.v s)) from rfl,Tr.get_set 13 _ _ _ _ (hl _ (List.mem_cons_self ..)) ha]at h
  split at h
  ·rename_i e
   subst e
   have h:=Option.some.inj h
   exact⟨s,List.mem_cons_self ..,h.symm⟩
  ·obtain⟨s',h1,h2⟩:=zda ha (fun q hq=>hl q (List.mem_cons_of_mem _ hq)) h
   exact⟨s',List.mem_cons_of_mem _ h1,h2⟩
theorem wrT_ok {fa:Fa} (hf:FaOk E fa) {σ:Sl} (hσ:∀ i u,lk σ i=some u->u.den E=E'.i i) (ρ ρ':Rho) {z:V} {cs:Array Value} {N:Nat} (hN:N<=8192) :
  ∀ (l:List (Nat × RS)) (T tr tr':Tr V),(∀ q∈l,q.1<8192)->wrT fa σ l tr=some tr'->(∀ i,i<N->zf7 E' cs T 13 ρ' i=some ((yH tr 13 z i).γ E ρ))->∀ i,i<N->zf7 E' cs (trWr T l) 13 ρ' i=some ((yH tr' 13 z i).γ E ρ)
 | [],T,tr,tr',_,h,ho=>by
  have h:=Option.some.inj h
  subst h
  exact ho
 | (a,v)::l,T,tr,tr',hl,h,ho=>by
  obtain⟨u,h1,h⟩:=yX (show oc (rsE fa σ v) (fun u=>zaK tr 13 a u (fun tr=>wrT fa σ l tr)) none=some tr' from h)
  rw[j2]at h
  have ha:a<8192:=hl _ (List.mem_cons_self ..)
  obtain⟨g1,_⟩:=zfj hf hσ ρ ρ' v u h1
  refine wrT_ok hf hσ ρ ρ' hN l (T.set 13 a v.v) _ tr' (fun q hq=>hl q (List.mem_cons_of_mem _ hq)) h fun i hi=>?_
  have h2:=ho i hi
  unfold zf7 yH at h2 ⊢
  rw[Tr.get_set 13 _ _ _ _ ha (by show i<8192;omega),Tr.get_set 13 _ _ _ _ ha (by show i<8192;omega)]
  by_cases e:i=a
  ·rw[if_pos e,if_pos e]
   show some _=some _
   rw[<- g1];rfl
  ·rw[if_neg e,if_neg e]
   exact h2
theorem zuI {fa:Fa} (hf:FaOk E fa) {σ:Sl} {n:Nat}:∀ (l:List (Nat × RS)) (tr tr':Tr V),(∀ q∈l,q.1<8192)->wrT fa σ l tr=some tr'->(∀ i v,i<2 ^ 13->tr.get 13 i=some v->v.bd n)->∀ i v,i<2 ^ 13->tr'.get 13 i=some v->v.bd n
 | [],tr,tr',_,h,ho=>by
  have h:=Option.some.inj h
  subst h
  exact ho
 | (a,v)::l,tr,tr',hl,h,ho=>by
  obtain⟨u,h1,h⟩:=yX (show oc (rsE fa σ v) (fun u=>zaK tr 13 a u (fun tr=>wrT fa σ l tr)) none=some tr' from h)
  rw[j2]at h
  have ha:a<8192:=hl _ (List.mem_cons_self ..)
  obtain⟨_,g2⟩:=zfj (E':=⟨fun i=>match lk σ i with | some e=>e.den E | none=>0,E.b,E.s⟩) hf (fun i u h=>by show _=(match lk σ i with | some e=>e.den E | none=>0);rw[h]) (fun _=>⟨0,0⟩) (fun _=>⟨0,0⟩) v u h1
  refine zuI hf l _ tr' (fun q hq=>hl q (List.mem_cons_of_mem _ hq)) h fun i v' hi hv=>?_
  rw[Tr.get_set 13 _ _ _ _ ha hi]at hv
  split at hv
  ·have hv:=Option.some.inj hv
   subst hv
   exact bd_mono (Nat.zero_le _) _ g2
  ·exact ho i v' hi hv
end Go.Ev
end
set_option linter.unusedSimpArgs false
set_option linter.unusedVariables false
noncomputable section
namespace Go.Ev
open Go
variable {E E':Env} {P:Program}
def H.two (h:H) (m id:Ev.P) (om oi:O):H:=⟨h.n,h.lo,(h.t.set m om).set id oi⟩
theorem zv2 {ρ:Rho} {h:H} {w w':World} (hs:Sat E ρ h w) {m id:Ev.P} {om om0 oi oi0:O} (hm:h.t.get m=some om0) (hi:h.t.get id=some oi0) (lm:om0.mine=true) (li:oi0.mine=true) (hne:m≠id)
  (hlm:h.lo.toNat<=m.toNat) (hli:h.lo.toNat<=id.toNat) (h1:om.Is E ρ (ρ m) w'.heap) (h2:oi.Is E ρ (ρ id) w'.heap) (b1:om.bd h.n.toNat) (b2:oi.bd h.n.toNat)
  (eos:w'.os=w.os) (etp:w'.tape=w.tape) (eou:w'.output=w.output) (esz:w.heap.size<=w'.heap.size) (ekp:∀ b,b<w.heap.size->b≠(ρ m).b->b≠(ρ id).b->w'.heap[b]? = w.heap[b]?) :
  Sat E ρ (h.two m id om oi) w'/\Ext ρ h w ρ (h.two m id om oi) w':=by
 have gm:=(hs.bd m om0 hm).1
 have gi:=(hs.bd id oi0 hi).1
 have back:∀ p u,(h.two m id om oi).t.get p=some u->(p=id/\u=oi)\/(p=m/\u=om)\/(p≠id/\p≠m/\h.t.get p=some u):=by
  intro p u hp
  have hp:((h.t.set m om).set id oi).get p=some u:=hp
  by_cases e:p=id
  ·subst e
   rw[PT.get_set_same]at hp
   exact .inl ⟨rfl,(Option.some.inj hp).symm⟩
  ·rw[PT.get_set_other _ _ _ _ (fun h=>e h.symm)]at hp
   by_cases e2:p=m
   ·subst e2
    rw[PT.get_set_same]at hp
    exact .inr (.inl ⟨rfl,(Option.some.inj hp).symm⟩)
   ·rw[PT.get_set_other _ _ _ _ (fun h=>e2 h.symm)]at hp
    exact .inr (.inr ⟨e,e2,hp⟩)
 have orig:∀ p u,(h.two m id om oi).t.get p=some u->u.live=true->∃ u0,h.t.get p=some u0/\u0.live=true:=by
  intro p u hp l1
  rcases back p u hp with ⟨rfl,rfl⟩ | ⟨rfl,rfl⟩ | ⟨_,_,hp⟩
  ·exact⟨oi0,hi,yA li⟩
  ·exact⟨om0,hm,yA lm⟩
  ·exact⟨u,hp,l1⟩
 have orig2:∀ p u,(h.two m id om oi).t.get p=some u->u.mine=true->∃ u0,h.t.get p=some u0/\u0.mine=true:=by
  intro p u hp l1
  rcases back p u hp with ⟨rfl,rfl⟩ | ⟨rfl,rfl⟩ | ⟨_,_,hp⟩
  ·exact⟨oi0,hi,li⟩
  ·exact⟨om0,hm,lm⟩
  ·exact⟨u,hp,l1⟩
 refine⟨⟨fun p u hp=>?_,fun p q u u' hp hq l1 l2 hh=>?_,fun p u hp=>?_⟩,⟨Nat.le_refl _,rfl,fun _ _=>rfl,fun p u g1 g2=>?_,eos,etp,eou,esz,fun b hb hn=>?_,fun p hp _=>?_,fun p u hp hg hl2=>?_⟩⟩
 ·rcases back p u hp with ⟨rfl,rfl⟩ | ⟨rfl,rfl⟩ | ⟨n1,n2,hp⟩
  ·exact h2
  ·exact h1
  ·exact O.Is_heap E (fun hlu=>ekp _ (hs.lt E hp hlu) (fun e=>n2 (hs.inj m p om0 u hm hp lm hlu e.symm).symm) (fun e=>n1 (hs.inj id p oi0 u hi hp li hlu e.symm).symm)) (hs.obj p u hp)
 ·obtain⟨u0,g1,k1⟩:=orig2 p u hp l1
  obtain⟨u1,g2,k2⟩:=orig q u' hq l2
  exact hs.inj p q u0 u1 g1 g2 k1 k2 hh
 ·rcases back p u hp with ⟨rfl,rfl⟩ | ⟨rfl,rfl⟩ | ⟨n1,n2,hp⟩
  ·exact⟨gi,b2⟩
  ·exact⟨gm,b1⟩
  ·exact hs.bd p u hp
 ·exfalso
  rcases back p u g2 with ⟨rfl,rfl⟩ | ⟨rfl,rfl⟩ | ⟨_,_,hp⟩
  ·exact absurd gi (Nat.not_lt.2 g1)
  ·exact absurd gm (Nat.not_lt.2 g1)
  ·exact absurd (hs.bd p u hp).1 (Nat.not_lt.2 g1)
 ·exact ekp b hb (fun e=>hn m om0 hm (yA lm) hlm e.symm) (fun e=>hn id oi0 hi (yA li) hli e.symm)
 ·have hp:p.toNat<h.lo.toNat:=hp
  show ((h.t.set m om).set id oi).get p=h.t.get p
  rw[PT.get_set_other _ _ _ _ (fun e=>by subst e;omega),PT.get_set_other _ _ _ _ (fun e=>by subst e;omega)]
 ·rcases back p u hg with ⟨rfl,rfl⟩ | ⟨rfl,rfl⟩ | ⟨_,_,hg⟩
  ·exact⟨oi0,hi,yA li⟩
  ·exact⟨om0,hm,yA lm⟩
  ·exact⟨u,hg,hl2⟩
theorem zlT {β:Type} {o:O} {f:TypeId->Ev.P->Nat->Nat->SE->Option β} {r:β} (h:memO o f none=some r) :
  ∃ t id n m u s,o=.cells t [.sl id 0 n m,u]/\f t id n m s=some r/\(∀ E ρ,u.γ E ρ=.int .i64 (s.den E)):=by
 unfold memO at h
 split at h
 ·exact⟨_,_,_,_,_,_,rfl,h,fun _ _=>rfl⟩
 ·exact⟨_,_,_,_,_,_,rfl,h,fun _ _=>rfl⟩
 ·cases h
theorem zml {β:Type} {o:O} {f:TypeId->Nat->Nat->V->Tr V->Option β} {r:β} (h:arrO o f none=some r):∃ t n d z tr,o=.arr t n d z tr/\f t n d z tr=some r:=by
 unfold arrO at h
 split at h
 ·exact⟨_,_,_,_,_,rfl,h⟩
 ·cases h
theorem zch {c:MC} {s:Sm} {p:Ev.P} {o:O} (h:(hPat c s).t.get p=some o):(p=.h/\o=.oa c.tA 7 c.N 13 (zev s.rd))\/(p=.o .h/\o=.cells c.tM [.sl .h 0 c.N c.N,.si .i64 (.v 5)]):=by
 have h:(((PT.e:PT O).set .h (.oa c.tA 7 c.N 13 (zev s.rd))).set (.o .h) (.cells c.tM [.sl .h 0 c.N c.N,.si .i64 (.v 5)])).get p=some o:=h
 by_cases e:p=.o .h
 ·subst e
  rw[PT.get_set_same]at h
  exact .inr ⟨rfl,(Option.some.inj h).symm⟩
 ·rw[PT.get_set_other _ _ _ _ (fun h=>e h.symm)]at h
  by_cases e2:p=.h
  ·subst e2
   rw[PT.get_set_same]at h
   exact .inl ⟨rfl,(Option.some.inj h).symm⟩
  ·rw[PT.get_set_other _ _ _ _ (fun h=>e2 h.symm),PT.get_e]at h
   cases h
theorem ztR:∀ l:List Pa,bdL 0 (zf9 Pa.v l)
 | []=>trivial
 | x::r=>⟨by cases x <;> exact trivial,ztR r⟩
theorem ztS:∀ l:List PA,bdL 0 (zf9 PA.v l)
 | []=>trivial
 | x::r=>⟨by
   cases x with
   | one p=>cases p <;> exact trivial
   | agg l=>exact ztR l,ztS r⟩
theorem Sm.app_run {c:MC} {s:Sm} {F:Nat} {zc:zy} (hcall:∀ E':Env,(∀ q,q≠7->E'.s q=E.s q)->zi E' P zc) (hwf:s.wf c=true) (hnd:ndB s.syms=true) (hr:s.run c F zc=0) {l:List V} {h:H} {fa:Fa} {x:AR}
  (ha:s.app c l h fa=some x) (hfa:FaOk E fa) :
  yl P F/\x.v.bd 0/\∀ ρ w,Sat E ρ h w->Calls P F (γL E ρ l).toArray w fun e w'=>e=.returned (x.v.γ E ρ)/\Sat E ρ (h.two x.m x.id x.om x.oi) w'/\Ext ρ h w ρ (h.two x.m x.id x.om x.oi) w':=by
 unfold Sm.app at ha
 cases l with
 | nil=>cases ha
 | cons a r=>
 obtain⟨m,hm0,ha1⟩:∃ m,a=.ptr m 0/\s.app1 c h fa r m=some x:=by
  have ha2:zak (some a) (fun m off=>bc (Nat.beq off 0) (s.app1 c h fa r m) none) none=some x:=ha
  clear ha
  cases a <;> first | (cases ha2;done) | skip
  rename_i m off
  obtain⟨h1,h2⟩:=jr (show bc (Nat.beq off 0) (s.app1 c h fa r m) none=some x from ha2)
  have h1:off=0:=by simpa using h1
  rw[h1]
  exact⟨m,rfl,h2⟩
 clear ha
 subst hm0
 unfold Sm.app1 at ha1
 obtain⟨hmm,ha2⟩:=jr ha1
 obtain⟨om0,hom,ha3⟩:=yX ha2
 rw[zJ]at hom
 obtain⟨tm,id,n,n',stv,st,e0,ha4,hst⟩:=zlT ha3
 obtain⟨hb,ha5⟩:=jr ha4
 simp only[Bool.and_eq_true,Nat.beq_eq]at hb
 obtain⟨⟨⟨e1,e2⟩,e3⟩,hmi⟩:=hb
 obtain⟨oi0,hoi,ha6⟩:=yX ha5
 rw[zJ]at hoi
 obtain⟨ta,n2,d,z,tr,e4,ha7⟩:=zml ha6
 obtain⟨hb,ha8⟩:=jr ha7
 simp only[Bool.and_eq_true,Nat.beq_eq]at hb
 obtain⟨⟨e5,e6⟩,e7⟩:=hb
 obtain⟨σ1,hσ1,ha9⟩:=yX ha8
 obtain⟨σ,hσ2,hb0⟩:=yX ha9
 clear ha1 ha2 ha3 ha4 ha5 ha6 ha7 ha8 ha9
 subst e0 e1 e2 e3 e4 e5 e6 e7
 unfold Sm.app2 at hb0
 obtain⟨hcn,hb1⟩:=jr hb0
 obtain⟨v,hv,hb2⟩:=yX hb1
 obtain⟨tr',htr',hb3⟩:=yX hb2
 have hb4:=Option.some.inj hb3
 clear hb0 hb1 hb2 hb3
 subst hb4
 have hne:m≠id:=by
  intro e
  subst e
  rw[hom]at hoi
  cases hoi
 -- places
 unfold Sm.wf at hwf
 simp only[Bool.and_eq_true]at hwf
 obtain⟨⟨hN,hrd⟩,hwr⟩:=hwf
 have hN:c.N<=8192:=by simpa using hN
 have hrd:∀ q∈s.rd,q.1<c.N:=fun q hq=>by simpa using jA hrd q hq
 have hwr:∀ q∈s.wr,q.1<c.N:=fun q hq=>by simpa using jA hwr q hq
 have hk:zbj σ=s.syms:=by
  rw[(zva (E:=E) (E':=E) (fun _=>⟨0,0⟩) s.rd σ1 σ hσ2).2,(zlS (E:=E) (E':=E) (g:=PA.v) (sy:=symA) (fun _=>⟨0,0⟩) (fun _=>⟨0,0⟩) (paA_ok _ _) s.l r _ σ1 hσ1).2]
  rfl
 have hnod:(zbj σ).Nodup:=by rw[hk];exact ndB_ok hnd
 obtain⟨hcall1,hbv⟩:yl P F/\v.bd 0:=by
  have hc:=hcall (zi0 E σ #[] c.tA) (fun q hq=>by show (if q=7 then _ else _)=_;rw[if_neg hq])
  have hf':FaOk (zi0 E σ #[] c.tA) ⟨s.fa,[]⟩:=zvE hfa (fun i u h=>zvj i u h) hcn
  exact⟨(hc _ _ _ _ _ hr hf').1,(zlF (E':=zi0 E σ #[] c.tA) hfa (fun i u h=>zvj i u h) (fun _=>⟨0,0⟩) (fun _=>⟨0,0⟩) s.v v hv).2⟩
 refine⟨hcall1,hbv,fun ρ w hs=>?_⟩
 obtain⟨hn13,cs,hcs,hsz,hcell⟩:=hs.obj id _ hoi
 have hmem:=hs.obj m _ hom
 have hmem:w.heap[(ρ m).b]? = some (.cells #[.slice (some ⟨(ρ id).b,0,none⟩) c.N c.N,stv.γ E ρ] c.tM (0,0)):=hmem
 obtain⟨E',hE'⟩:∃ E',E'=zi0 E σ cs c.tA:=⟨_,rfl⟩
 have hE's:(E'.s 7).cs=cs:=by rw[hE'];rfl
 have hc:=hcall E' (fun q hq=>by rw[hE'];show (if q=7 then _ else _)=_;rw[if_neg hq])
 have hlk:∀ i u,lk σ i=some u->u.den E=E'.i i:=fun i u h=>by rw[hE'];exact zvj i u h
 have hf':FaOk E' ⟨s.fa,[]⟩:=zvE hfa hlk hcn
 obtain⟨_,v0,h0,fa0,hk0,_,hrun⟩:=hc _ _ _ _ _ hr hf'
 -- what the pattern's run comes to
 unfold Sm.ok at hk0
 obtain⟨q1,hk0⟩:=zn hk0 (by simp)
 obtain⟨q2,hk0⟩:=zn hk0 (by simp)
 obtain⟨q3,_⟩:=zn hk0 (by simp)
 have q1:=V.beq_ok q1
 have q2:=jD q2
 have q3:=jD q3
 subst q1
 -- the pattern's places
 obtain⟨ρ',hρ'⟩:∃ ρ':Rho,ρ'=fun p=>match p with | .h=>ρ id | _=>ρ m:=⟨_,rfl⟩
 have hρ1:ρ' .h=ρ id:=by rw[hρ']
 have hρ2:ρ' (.o .h)=ρ m:=by rw[hρ']
 have hold:Hold E E' σ:=by rw[hE'];exact zAK hnod
 obtain⟨hold1,hread⟩:=(zva (E:=E) (E':=E') ρ s.rd σ1 σ hσ2).1 hold
 obtain⟨hold5,hargs⟩:=(zlS (E:=E) (E':=E') (g:=PA.v) (sy:=symA) ρ ρ' (paA_ok ρ ρ') s.l r _ σ1 hσ1).1 hold1
 have h5:E'.i 5=st.den E:=hold5 (5,st) (List.mem_cons_self ..)
 have hsat:Sat E' ρ' (hPat c s) w:=by
  refine⟨fun p o hp=>?_,fun p q o o' hp hq _ _ hh=>?_,fun p o hp=>?_⟩
  ·rcases zch hp with ⟨rfl,rfl⟩ | ⟨rfl,rfl⟩
   ·rw[hρ1]
    refine⟨by omega,cs,hcs,hsz,by rw[hE's];exact hsz,fun i hi=>?_⟩
    unfold zf7
    cases e:(zev s.rd).get 13 i with
    | none=>rw[hE's]
    | some v=>
     obtain⟨y,g1,rfl⟩:=zda (by omega) (fun q hq=>by have:=hrd q hq;omega) e
     rw[hcell i hi,hread (i,y) g1]
     rfl
   ·rw[hρ2]
    show w.heap[(ρ m).b]? = some (.cells (γL E' ρ' [.sl .h 0 c.N c.N,.si .i64 (.v 5)]).toArray c.tM (0,0))
    rw[hmem]
    simp only[γL,V.γ,hρ1,SE.den,h5,hst]
  ·rcases zch hp with ⟨rfl,rfl⟩ | ⟨rfl,rfl⟩ <;> rcases zch hq with ⟨rfl,rfl⟩ | ⟨rfl,rfl⟩
   ·rfl
   ·rw[hρ1,hρ2]at hh
    exact absurd (hs.inj id m _ _ hoi hom rfl rfl hh).symm hne
   ·rw[hρ1,hρ2]at hh
    exact absurd (hs.inj m id _ _ hom hoi rfl rfl hh) hne
   ·rfl
  ·rcases zch hp with ⟨rfl,rfl⟩ | ⟨rfl,rfl⟩
   ·refine⟨by show (1:Nat)<3;decide,fun i v hi hv=>?_⟩
    obtain⟨y,_,rfl⟩:=zda hi (fun q hq=>by have:=hrd q hq;omega) hv
    exact trivial
   ·exact⟨by show (2:Nat)<3;decide,by show (1:Nat)<3;decide,trivial,trivial⟩
 have hγ:γL E' ρ' s.args=γL E ρ (.ptr m 0::r):=by
  show V.γ E' ρ' (.ptr (.o .h) 0)::γL E' ρ' (zf9 PA.v s.l)=V.γ E ρ (.ptr m 0)::γL E ρ r
  rw[hargs]
  simp only[V.γ,hρ2]
 have hbd:bdL (hPat c s).n.toNat s.args:=⟨by show (2:Nat)<3;decide,yO (Nat.zero_le _) _ (ztS s.l)⟩
 have hrun:=hrun ρ' w hbd hsat
 rw[hγ]at hrun
 refine hrun.mono ?_
 rintro e w' ⟨ρ2,he,hs',hx',_⟩
 have a1:ρ2 .h=ρ id:=by rw[hx'.agree .h (by show (1:Nat)<3;decide),hρ1]
 have a2:ρ2 (.o .h)=ρ m:=by rw[hx'.agree (.o .h) (by show (2:Nat)<3;decide),hρ2]
 refine⟨by rw[he,(zlF hfa hlk ρ ρ2 s.v v hv).1],?_⟩
 have i1:=hs'.obj .h _ q2
 have i2:=hs'.obj (.o .h) _ q3
 rw[a1]at i1
 rw[a2]at i2
 obtain⟨_,cs',k1,k2,k3,k4⟩:=i1
 refine zv2 hs hom hoi rfl rfl hne (yD h m hmm) (yD h id hmi) ?_ ?_ ?_ ?_ hx'.os hx'.tape hx'.output hx'.size ?_
 ·show w'.heap[(ρ m).b]? = some (.cells (γL E ρ [.sl id 0 c.N c.N,stO fa st s.st]).toArray c.tM (0,0))
  have i2:w'.heap[(ρ m).b]? = some (.cells (γL E' ρ2 [.sl .h 0 c.N c.N,.si .i64 (stP s.st)]).toArray c.tM (0,0)):=i2
  rw[i2]
  have:(stO fa st s.st).γ E ρ=V.γ E' ρ2 (.si .i64 (stP s.st)):=by
   unfold stO stP
   cases Nat.beq s.st 0 with
   | true=>
    show (mkE .i64 st).γ E ρ=Value.int .i64 (E'.i 5)
    rw[(zbx _ _ _).1,h5]
   | false=>
    show (mkE .i64 (opS fa .add .i64 st (.lit s.st))).γ E ρ=Value.int .i64 (arS .add .i64 (E'.i 5) s.st)
    rw[(zbx _ _ _).1,zlP hfa,h5]
    rfl
  simp only[γL,this]
  simp only[V.γ,a1]
 ·refine⟨hn13,cs',k1,k2,fun i hi=>?_⟩
  have:=wrT_ok hfa hlk ρ ρ2 (z:=z) (cs:=cs) hN s.wr (zev s.rd) tr tr' (fun q hq=>by have:=hwr q hq;omega) htr' (fun i hi=>by
   unfold zf7
   cases e:(zev s.rd).get 13 i with
   | none=>exact hcell i hi
   | some v=>
    obtain⟨y,g1,rfl⟩:=zda (by omega) (fun q hq=>by have:=hrd q hq;omega) e
    rw[hread (i,y) g1]
    rfl) i hi
  rw[k4 i hi,hE's]
  exact this
 ·refine⟨(hs.bd id _ hoi).1,?_,trivial⟩
  unfold stO
  cases Nat.beq s.st 0 with
  | true=>exact bd_mono (Nat.zero_le _) _ (zbx (E:=E) _ _ ρ).2
  | false=>exact bd_mono (Nat.zero_le _) _ (zbx (E:=E) _ _ ρ).2
 ·have hb:=(hs.bd id _ hoi).2
  exact⟨hb.1,zuI hfa s.wr tr tr' (fun q hq=>by have:=hwr q hq;omega) htr' hb.2⟩
 ·intro b hb n1 n2
  refine hx'.keep b hb fun p o hp _ _=>?_
  rcases zch hp with ⟨rfl,rfl⟩ | ⟨rfl,rfl⟩
  ·rw[hρ1];exact fun e=>n2 e.symm
  ·rw[hρ2];exact fun e=>n1 e.symm
def zau (c:MC) (F:Nat) (zc:zy) (ss:List Sm):Prop:=∀ s∈ss,s.wf c=true/\ndB s.syms=true/\s.run c F zc=0
def zg (c:MC) (F:Nat) (zc:zy) (ss:List Sm):Bool:=yP (fun s:Sm=>bc (s.wf c) (bc (ndB s.syms) (Nat.beq (s.run c F zc) 0) false) false) ss
theorem za {c:MC} {F:Nat} {zc:zy} {ss:List Sm} (h:zg c F zc ss=true):zau c F zc ss:=by
 intro s hs
 have:=jA h s hs
 have this:bc (s.wf c) (bc (ndB s.syms) (Nat.beq (s.run c F zc) 0) false) false=true:=this
 cases h1:s.wf c with
 | false=>rw[h1]at this;cases this
 | true=>
  rw[h1]at this
  have this:bc (ndB s.syms) (Nat.beq (s.run c F zc) 0) false=true:=this
  cases h2:ndB s.syms with
  | false=>rw[h2]at this;cases this
  | true=>
   rw[h2]at this
   have this:Nat.beq (s.run c F zc) 0=true:=this
   exact⟨rfl,rfl,by simpa using this⟩
theorem smh_ok {c:MC} {F:Nat} {zc:zy} {ss:List V->List Sm} (hcall:∀ E':Env,(∀ q,q≠7->E'.s q=E.s q)->zi E' P zc) (hss:∀ l,zau c F zc (ss l)) :
  zi E P (fun G l h fa k=>bc (Nat.beq G F) (zan c ss F zc l h fa k) 1):=by
 intro G l h fa k hk hfa
 obtain⟨hG,hk⟩:=zn (show bc (Nat.beq G F) (zan c ss F zc l h fa k) 1=0 from hk) (by simp)
 have hG:G=F:=by simpa using hG
 subst hG
 unfold zan at hk
 have hs:=hss l
 generalize ss l=L at hk hs
 induction L with
 | nil=>
  exact hcall E (fun _ _=>rfl) _ _ _ _ _ (show zc G l h fa k=0 from hk) hfa
 | cons s r ih=>
  have hk:oc (s.app c l h fa) (fun x=>x.go (fun m id om oi v=>hc h (fun n lo t=>zbo m t om (fun t=>zbo id t oi (fun t=>k v ⟨n,lo,t⟩ fa))))) (smTry c r l h fa k (zc G l h fa k))=0:=hk
  cases ha:s.app c l h fa with
  | none=>
   rw[ha]at hk
   exact ih hk (fun s hm=>hs s (List.mem_cons_of_mem _ hm))
  | some x=>
   rw[ha]at hk
   obtain⟨g1,g2,g3⟩:=hs s (List.mem_cons_self ..)
   obtain⟨hca,hbv,hrun⟩:=Sm.app_run hcall g1 g2 g3 ha hfa
   cases x with
   | mk m id om oi v=>
   have hk:hc h (fun n lo t=>zbo m t om (fun t=>zbo id t oi (fun t=>k v ⟨n,lo,t⟩ fa)))=0:=hk
   rw[jX,zaP,zaP]at hk
   refine⟨hca,v,h.two m id om oi,fa,hk,hfa,fun ρ w hb hs=>(hrun ρ w hs).mono ?_⟩
   rintro e w' ⟨he,hs',hx'⟩
   exact⟨ρ,he,hs',hx',bd_mono (Nat.zero_le _) v hbv⟩
end Go.Ev
end
set_option linter.unusedSimpArgs false
set_option linter.unusedVariables false
noncomputable section
namespace Go.Ev
open Go
variable {E:Env} {P:Program}
def TrP {α:Type} (p:α->Prop):Tr α->Prop
 | .nil=>True
 | .leaf a=>p a
 | .node l r=>TrP p l/\TrP p r
theorem TrP.get {α:Type} {p:α->Prop}:∀ (t:Tr α) (d k:Nat) (a:α),TrP p t->t.get d k=some a->p a
 | .nil,d,k,a,_,h=>by rw[Tr.get_nil]at h;cases h
 | .leaf x,0,k,a,hp,h=>by
  have h:some x=some a:=h
  cases h
  exact hp
 | .leaf x,d+1,k,a,hp,h=>by rw[Tr.get_succ]at h;cases h
 | .node l r,0,k,a,hp,h=>by cases h
 | .node l r,d+1,k,a,hp,h=>by
  rw[Tr.get_succ]at h
  have h:(if k % 2=0 then l.get d (k / 2) else r.get d (k / 2))=some a:=h
  split at h
  ·exact TrP.get l d _ a hp.1 h
  ·exact TrP.get r d _ a hp.2 h
def ssT (tr:Tr (List Sm)):List V->List Sm:=fun l=>jM [] (fun _ r=>jM [] (fun a _=>vLit (some a) (fun n=>jh n (fun m=>bc (Nat.blt m 8192) (oc (tr.get 13 m) (fun s=>s) []) []) (fun _=>[])) []) r) l
theorem ssT_ok {c:MC} {F:Nat} {zc:zy} {tr:Tr (List Sm)} (h:TrP (zau c F zc) tr) (l:List V):zau c F zc (ssT tr l):=by
 have nil:zau c F zc []:=fun s hs=>by cases hs
 cases l with
 | nil=>exact nil
 | cons x r=>
 cases r with
 | nil=>exact nil
 | cons a r=>
 cases a <;> try exact nil
 rename_i k n
 cases n with
 | negSucc n=>exact nil
 | ofNat m=>
  show zau c F zc (bc (Nat.blt m 8192) (oc (tr.get 13 m) (fun s=>s) []) [])
  cases Nat.blt m 8192 with
  | false=>exact nil
  | true=>
   show zau c F zc (oc (tr.get 13 m) (fun s=>s) [])
   cases e:tr.get 13 m with
   | none=>exact nil
   | some ss=>exact TrP.get tr 13 m ss h e
theorem zcK {c:MC} {F:Nat} {zc:zy} {tr:Tr (List Sm)} (hcall:∀ E':Env,(∀ q,q≠7->E'.s q=E.s q)->zi E' P zc) (h:TrP (zau c F zc) tr) :
  zi E P (fun G l h fa k=>bc (Nat.beq G F) (zan c (ssT tr) F zc l h fa k) 1):=smh_ok hcall (ssT_ok h)
end Go.Ev
end
set_option linter.unusedSimpArgs false
set_option linter.unusedVariables false
noncomputable section
namespace Go.Ev
open Go Go.RowKit
variable {E:Env} {P:Program}
def zfE (z:V) (t:Tr V):Option V:=match t with
 | .nil=>some z
 | .leaf a=>some a
 | .node _ _=>none
def kids (t:Tr V):Option (Tr V × Tr V):=match t with
 | .nil=>some (.nil,.nil)
 | .leaf _=>none
 | .node l r=>some (l,r)
def isNilT (t:Tr V):Bool:=match t with
 | .nil=>true
 | _=>false
theorem zw5 {t l r:Tr V} (h:kids t=some (l,r)) (d:Nat) (z:V) (i:Nat):yH t (d+1) z i=if i % 2=0 then yH l d z (i / 2) else yH r d z (i / 2):=by
 cases t with
 | nil=>
  simp only[kids,Option.some.injEq,Prod.mk.injEq]at h
  obtain⟨rfl,rfl⟩:=h
  simp[yH,Tr.get_nil]
 | leaf a=>simp[kids]at h
 | node l' r'=>
  simp only[kids,Option.some.injEq,Prod.mk.injEq]at h
  obtain⟨rfl,rfl⟩:=h
  unfold yH
  rw[Tr.get_succ]
  simp only
  split <;> rfl
def arN (o:Option O):Option (Nat × Nat × V × Tr V):=match o with
 | some (.arr _ n d z tr)=>some (n,d,z,tr)
 | some (.varr _ n d z tr)=>some (n,d,z,tr)
 | _=>none
theorem arN_ok {o:Option O} {n d:Nat} {z:V} {tr:Tr V} (h:arN o=some (n,d,z,tr)) {ρ:Rho} {hp:Array Obj} {L:Pl} (hi:∀ o',o=some o'->o'.Is E ρ L hp) :
  ∃ (cs:Array Value) (t:TypeId),hp[L.b]? = some (.cells cs t (0,0))/\∀ i,i<n->cs[i]? = some ((yH tr d z i).γ E ρ):=by
 unfold arN at h
 split at h <;> simp at h
 ·obtain⟨rfl,rfl,rfl,rfl⟩:=h
  obtain⟨_,cs,h1,_,h2⟩:=hi _ rfl
  exact⟨cs,_,h1,h2⟩
 ·obtain⟨rfl,rfl,rfl,rfl⟩:=h
  obtain⟨_,cs,h1,_,_,_,h2⟩:=hi _ rfl
  exact⟨cs,_,h1,h2⟩
end Go.Ev
end
set_option linter.unusedSimpArgs false
set_option linter.unusedVariables false
noncomputable section
namespace Go.Ev
open Go Go.RowKit
variable {E:Env} {P:Program}
def z64:V:=.i .u64 0
def isNZ (v:Option V):Option Bool:=match v with
 | some (.i .u64 x)=>some (bc (iEq x 0) false true)
 | _=>none
def orE (x y:Option Bool):Option Bool:=match x,y with
 | some a,some b=>some (bc a true b)
 | _,_=>none
def zw0 (d:Nat):Tr V->Nat->Nat->Option Bool:=
 Nat.rec (motive:=fun _=>Tr V->Nat->Nat->Option Bool)
  (fun t lo hi=>bc (Nat.blt lo hi) (match isNZ (zfE z64 t) with
   | some b=>some (bc (Nat.beq lo 0) b false)
   | none=>none) (some false))
  (fun _ ih t lo hi=>bc (Nat.blt lo hi) (bc (isNilT t) (some false) (match kids t with
   | some (l,r)=>orE (ih l (Nat.div (lo+1) 2) (Nat.div (hi+1) 2)) (ih r (Nat.div lo 2) (Nat.div hi 2))
   | none=>none)) (some false)) d
theorem isNZ_ok {v:V} {b:Bool} (h:isNZ (some v)=some b):∃ x,v=.i .u64 x/\(b=true ↔ x≠0):=by
 unfold isNZ at h
 split at h
 ·rename_i x hx
  simp only[Option.some.injEq]at hx h
  subst hx
  refine⟨x,rfl,?_⟩
  rw[<- h]
  cases he:iEq x 0 with
  | true=>rw[jb]at he;simp at he;simp[bc,he]
  | false=>
   have:¬ x=0:=fun e=>by rw[jb]at he;simp[e]at he
   simp[bc,this]
 ·cases h
theorem zf0:∀ (d:Nat) (t:Tr V) (lo hi:Nat) (r:Bool),zw0 d t lo hi=some r->hi<=2 ^ d ->
  ∃ f:Nat->Int,(∀ i,lo<=i->i<hi->yH t d z64 i=.i .u64 (f i))/\(r=true ↔ ∃ i,lo<=i/\i<hi/\f i≠0)
 | 0,t,lo,hi,r,h,hd=>by
  have h:bc (Nat.blt lo hi) (match isNZ (zfE z64 t) with
   | some b=>some (bc (Nat.beq lo 0) b false)
   | none=>none) (some false)=some r:=h
  rw[yG]at h
  split at h
  ·rename_i hlt
   have hlt:lo<hi:=by simpa using hlt
   have hd1:hi<=1:=by simpa using hd
   have hl:lo=0:=by omega
   subst hl
   split at h
   ·rename_i b hb
    have hb':∃ v,zfE z64 t=some v:=by
     cases hv:zfE z64 t with
     | none=>rw[hv]at hb;simp[isNZ]at hb
     | some v=>exact⟨v,rfl⟩
    obtain⟨v,hv⟩:=hb'
    rw[hv]at hb
    obtain⟨x,rfl,hx⟩:=isNZ_ok hb
    have h:some b=some r:=h
    simp only[Option.some.injEq]at h
    subst h
    refine⟨fun _=>x,fun i h1 h2=>?_,hx.trans ⟨fun e=>⟨0,by omega,hlt,e⟩,fun ⟨_,_,_,e⟩=>e⟩⟩
    have hi0:i=0:=by omega
    subst hi0
    cases t with
    | nil=>simpa [zfE,yH,Tr.get_nil] using hv
    | leaf a=>
     have hv:a=.i .u64 x:=by simpa [zfE] using hv
     subst hv;rfl
    | node l r=>simp[zfE]at hv
   ·cases h
  ·rename_i hlt
   have hlt:¬ lo<hi:=fun h=>by rw[<- Nat.blt_eq,hlt]at h;cases h
   simp only[Option.some.injEq]at h
   subst h
   exact⟨fun _=>0,fun i h1 h2=>absurd (Nat.lt_of_le_of_lt h1 h2) hlt,by simp⟩
 | d+1,t,lo,hi,r,h,hd=>by
  have h:bc (Nat.blt lo hi) (bc (isNilT t) (some false) (match kids t with
   | some (l,r)=>orE (zw0 d l (Nat.div (lo+1) 2) (Nat.div (hi+1) 2)) (zw0 d r (Nat.div lo 2) (Nat.div hi 2))
   | none=>none)) (some false)=some r:=h
  rw[yG]at h
  split at h
  ·rw[yG]at h
   split at h
   ·rename_i hn
    have h0:some false=some r:=h
    have ht:t=.nil:=by
     cases t with
     | nil=>rfl
     | leaf a=>cases hn
     | node l r=>cases hn
    subst ht
    cases h0
    refine⟨fun _=>0,fun i _ _=>by simp[yH,Tr.get_nil,z64],by simp⟩
   ·split at h
    ·rename_i l r' hk
     unfold orE at h
     split at h
     ·rename_i a b h1 h2
      simp only[Option.some.injEq]at h
      have hd2:hi<=2*2 ^ d:=by rw[Nat.pow_succ]at hd;omega
      obtain⟨f1,e1,i1⟩:=zf0 d l ((lo+1) / 2) ((hi+1) / 2) a h1 (by omega)
      obtain⟨f2,e2,i2⟩:=zf0 d r' (lo / 2) (hi / 2) b h2 (by omega)
      refine⟨fun i=>if i % 2=0 then f1 (i / 2) else f2 (i / 2),fun i g1 g2=>?_,?_⟩
      ·rw[zw5 hk]
       by_cases hm:i % 2=0
       ·simp only[hm,if_true];exact e1 _ (by omega) (by omega)
       ·simp only[hm,if_false];exact e2 _ (by omega) (by omega)
      ·rw[<- h,yG]
       constructor
       ·intro hab
        have hab:a=true\/b=true:=by
         cases a <;> cases b <;> simp at hab ⊢
        rcases hab with ha | hb
        ·obtain⟨i,g1,g2,g3⟩:=i1.1 ha
         refine⟨2*i,by omega,by omega,?_⟩
         simpa [Nat.mul_mod_right,show 2*i / 2=i from by omega] using g3
        ·obtain⟨i,g1,g2,g3⟩:=i2.1 hb
         refine⟨2*i+1,by omega,by omega,?_⟩
         have h1:¬ (2*i+1) % 2=0:=by omega
         simpa [h1,show (2*i+1) / 2=i from by omega] using g3
       ·rintro ⟨i,g1,g2,g3⟩
        by_cases hm:i % 2=0
        ·have ha:a=true:=i1.2 ⟨i / 2,by omega,by omega,by simpa [hm] using g3⟩
         rw[ha]
        ·have hb:b=true:=i2.2 ⟨i / 2,by omega,by omega,by simpa [hm] using g3⟩
         cases a
         ·exact hb
         ·rfl
     ·cases h
    ·cases h
  ·rename_i hlt
   have hlt:¬ lo<hi:=fun h=>by rw[<- Nat.blt_eq,hlt]at h;cases h
   simp only[Option.some.injEq]at h
   subst h
   exact⟨fun _=>0,fun i h1 h2=>absurd (Nat.lt_of_le_of_lt h1 h2) hlt,by simp⟩
def partN (v:V):Option (Ev.P × Nat × Nat):=match v with
 | .sl id off n _=>some (id,off,n)
 | .vt id off n=>bc (Nat.ble 1 n) (some (id,off,n)) none
 | .vec id n=>some (id,0,n)
 | _=>none
def isFn (v:V) (G:Nat):Bool:=match v with
 | .fn F [] []=>Nat.beq F G
 | _=>false
def anyT (G:Nat):List V->H->Fa->K->Nat:=fun l h fa k=>match l with
 | [a,b]=>bc (isFn b G) (match partN a with
  | some (id,off,n)=>match arN (ya h id) with
   | some (m,d,z,tr)=>bc (Nat.ble (off+n) m && Nat.ble m (2 ^ d) && V.beq z z64 && Nat.ble m 1000000000) (oc (zw0 d tr off (off+n)) (fun r=>k (.b r) h fa) 1) 1
   | none=>1
  | none=>1) 1
 | _=>1
def AnyC (P:Program) (F G:Nat):Prop:=∀ (w:World) (b off n c:Nat) (xs:Array Value) (t:TypeId) (f:Nat->Int),off+n<=1000000000->w.heap[b]? = some (.cells xs t (0,0))->(∀ i,i<n->xs[off+i]? = some (.int .u64 (f i))) ->
 Calls P F #[.slice (some ⟨b,off,none⟩) n c,.func (.func G) #[] #[]] w fun e w'=>(∃ r:Bool,e=.returned (.bool r)/\(r=true ↔ ∃ i,i<n/\f i≠0))/\w'=w
theorem zzO {v:V} {id:Ev.P} {off n:Nat} (h:partN v=some (id,off,n)) (ρ:Rho):∃ c,v.γ E ρ=.slice (some ⟨(ρ id).b,off,none⟩) n c:=by
 unfold partN at h
 split at h
 ·simp only[Option.some.injEq,Prod.mk.injEq]at h
  obtain⟨rfl,rfl,rfl⟩:=h;exact⟨_,rfl⟩
 ·rw[yG]at h
  split at h
  ·rename_i hn
   simp only[Option.some.injEq,Prod.mk.injEq]at h
   obtain⟨rfl,rfl,rfl⟩:=h
   rw[Nat.ble_eq]at hn
   rename_i id' off' n' _
   exact⟨(ρ id').c - off',by simp only[V.γ];rw[if_neg (by omega)]⟩
  ·cases h
 ·simp only[Option.some.injEq,Prod.mk.injEq]at h
  obtain⟨rfl,rfl,rfl⟩:=h;exact⟨_,rfl⟩
 ·cases h
theorem isFn_ok {v:V} {G:Nat} (h:isFn v G=true) (ρ:Rho):v.γ E ρ=.func (.func G) #[] #[]:=by
 unfold isFn at h
 split at h
 ·rename_i F
  have h:F=G:=by simpa using h
  subst h;simp[V.γ,γL]
 ·cases h
theorem any_ok {F G:Nat} (hca:yl P F) (hc:AnyC P F G):zi E P (fun H l h fa k=>bc (Nat.beq H F) (anyT G l h fa k) 1):=by
 intro H0 l h fa k hk hfa
 obtain⟨hG,hk1⟩:=zn (show bc (Nat.beq H0 F) (anyT G l h fa k) 1=0 from hk) (by simp)
 have hG:H0=F:=by simpa using hG
 subst hG
 refine⟨hca,?_⟩
 clear hk
 unfold anyT at hk1
 split at hk1
 ·rename_i a b
  obtain⟨hfn,hk2⟩:=zn hk1 (by simp)
  split at hk2
  ·rename_i id off n h1
   split at hk2
   ·rename_i m d z tr h3
    obtain⟨hb,hk3⟩:=zn hk2 (by simp)
    obtain⟨r,hr,hk4⟩:=zA hk3 (by simp)
    simp only[Bool.and_eq_true,Nat.ble_eq]at hb
    obtain⟨⟨⟨b1,b2⟩,b3⟩,b4⟩:=hb
    have b3:=V.beq_ok b3
    subst b3
    refine⟨.b r,h,fa,hk4,hfa,fun ρ w hbd hs=>?_⟩
    obtain⟨f,hf,hiff⟩:=zf0 d tr off (off+n) r hr (by omega)
    obtain⟨c,hγ⟩:=zzO (E:=E) h1 ρ
    rw[zJ]at h3
    obtain⟨xs,tx,g1,g2⟩:=arN_ok (E:=E) h3 (fun o ho=>hs.obj id o ho)
    have hargs:(γL E ρ [a,b]).toArray=#[.slice (some ⟨(ρ id).b,off,none⟩) n c,.func (.func G) #[] #[]]:=by simp[γL,hγ,isFn_ok (E:=E) hfn ρ]
    rw[hargs]
    refine(hc w _ off n c xs tx (fun i=>f (off+i)) (by omega) g1 (fun i hi=>?_)).mono ?_
    ·rw[g2 (off+i) (by omega),hf (off+i) (by omega) (by omega)];rfl
    ·rintro e w' ⟨⟨r',rfl,hr'⟩,rfl⟩
     have hrr:r'=r:=by
      rw[Bool.eq_iff_iff,hr',hiff]
      constructor
      ·rintro ⟨i,g1,g2⟩;exact⟨off+i,by omega,by omega,g2⟩
      ·rintro ⟨i,g1,g2,g3⟩;exact⟨i - off,by omega,by rw[show off+(i - off)=i from by omega];exact g3⟩
     subst hrr
     exact⟨ρ,rfl,hs,hs.refl E,trivial⟩
   ·cases hk2
  ·cases hk2
 ·cases hk1
end Go.Ev
end
set_option linter.unusedSimpArgs false
set_option linter.unusedVariables false
noncomputable section
namespace Go.Ev
open Go Go.RowKit
variable {E E':Env} {P:Program} {N:Nat}
def runZ (st:Nat->GS) (x:IC) (zo:K2) (g:Ctx) (j:Nat) (fa:Fa) (nx:List (Nat × Sg)):Nat:=
 frOf (st j).fr (fun fr=>jp x g fr (st j).h fa (fun e fr h fa=>je e (zfw st nx fr h) (zo .ret fr h fa) (fun i=>zo (.exit i) fr h fa)))
theorem zga {Y:Ty} (hY:TyOk P Y) (hm:P.follows .mixedOrders=true) {dr:Nat->Option Dr} {w0:World} {lo:Ev.P} {x:Code} {QZ:Exit->Act->World->Prop} {st:Nat->GS} {Inv:Nat->Nat->Env->Prop}
  (hB:zH dr x=true)
  (round:∀ m j E,Inv m j E->∃ fa nx zo g,zi E P g.call/\FaOk E fa/\runZ st (yo Y N dr x) zo g j fa nx=0/\zf2 st Inv E nx m/\zdN E P N w0 lo zo QZ) :
  ∀ m j E,Inv m j E->∀ ρ w (a:Act),Wd w0 lo ρ (st j).h w->Sat E ρ (st j).h w->FrL E ρ (st j).h.n.toNat (st j).fr a.tmps->N<=a.tmps.size->a.defers=[]->Code.rounds P x QZ (m+1) a w:=by
 intro m
 induction m using Nat.strongRecOn with
 | _ m ih=>
  intro j E hI ρ w a d hs hf hN hd
  obtain⟨fa,nx,zo,g,hcall,hfa,hr,hl,hgood⟩:=round m j E hI
  obtain⟨fr,hr,hfr⟩:=frOf_ok hr
  have hf':zw E ρ (st j).h.n.toNat fr a.tmps:=fun t v hv=>hf t v (hfr _ v hv)
  obtain⟨ae,fr1,h1,fa1,hk1,hfa1,r1⟩:=yF hY hm hcall x fr (st j).h fa _ hB hfa hr
  rw[rounds_succ]
  refine r1 ρ w a _ hs hf' hN hd ?_
  rintro a' w' ⟨ρ',f1,n1,d1,s1,x1⟩
  cases ae with
  | normal=>
   obtain⟨hne,hall⟩:=ztJ (show zfw st nx fr1 h1=0 from hk1)
   obtain⟨j',σ,m',E',hmem,hlt,hI',ht,hrow⟩:=hl hne
   obtain⟨d2,s2,f2⟩:=ztQ (hall _ hmem) ht hrow (d.step x1) s1 f1
   exact zep a' w' (by omega) (ih m' hlt j' E' hI' ρ' w' a' d2 s2 f2 n1 d1)
  | ret=>exact hgood .ret fr1 h1 fa1 hk1 hfa1 ρ' w' a' (d.step x1) s1 f1 n1 d1
  | exit i=>exact hgood (.exit i) fr1 h1 fa1 hk1 hfa1 ρ' w' a' (d.step x1) s1 f1 n1 d1
structure Z2 where
 z0:ZC
 z1:ZC
 x1:Code
 z2:ZC
 x2:Code
def Z2.code (q:Z2):Code:=q.z0.plug (.seq (q.z1.plug (.loop q.x1)) (q.z2.plug (.loop q.x2)))
structure Cut2 where
 z0:ZI
 z1:ZI
 x1:IC
 z2:ZI
 x2:IC
 rs:List IR
end Go.Ev
end
set_option linter.unusedSimpArgs false
set_option linter.unusedVariables false
noncomputable section
namespace Go.Ev
open Go Go.RowKit
variable {E:Env} {P:Program}
def ziE (F:Nat) (l:List V) (v:V) (inner:zy):zy:=fun G l' h fa k=>bc (Nat.beq G F) (bc (yZ l' l) (k v h fa) (inner G l' h fa k)) (inner G l' h fa k)
theorem zzJ {F:Nat} {l:List V} {v:V} {inner:zy} (hca:yl P F) (hv:v.bd 0) (hc:∀ (ρ:Rho) (w:World),Calls P F (γL E ρ l).toArray w fun e w'=>e=.returned (v.γ E ρ)/\Below w.heap.size w w') (hi:zi E P inner) :
  zi E P (ziE F l v inner):=by
 intro G l' h fa k hk hfa
 unfold ziE at hk
 cases e1:Nat.beq G F with
 | false=>rw[e1]at hk;exact hi _ _ _ _ _ hk hfa
 | true=>
  rw[e1]at hk
  have hk1:bc (yZ l' l) (k v h fa) (inner G l' h fa k)=0:=hk
  cases e2:yZ l' l with
  | false=>rw[e2]at hk1;exact hi _ _ _ _ _ hk1 hfa
  | true=>
   rw[e2]at hk1
   have hk2:k v h fa=0:=hk1
   clear hk hk1
   have e1:G=F:=by simpa using e1
   have e2:=jl e2
   subst e1;subst e2
   refine⟨hca,v,h,fa,hk2,hfa,fun ρ w hb hs=>(hc ρ w).mono ?_⟩
   rintro e w' ⟨he,hb'⟩
   refine⟨ρ,he,⟨fun p o hp=>O.Is_heap E (fun hl=>hb'.block _ (hs.lt E hp hl)) (hs.obj p o hp),hs.inj,hs.bd⟩,?_,bd_mono (Nat.zero_le _) v hv⟩
   exact⟨Nat.le_refl _,rfl,fun _ _=>rfl,fun p o h1 h2=>by have:=(hs.bd p o h2).1;omega,hb'.os,hb'.tape,hb'.output,hb'.size,fun b hb _=>hb'.block b hb,fun _ _ _=>rfl,fun p o _ h1 h2=>⟨o,h1,h2⟩⟩
def jm (c n:Int):Int:=(if c<0 then -(c+1) else c) % n
theorem zfu {c n:Int} (hn:0<n):0<=jm c n/\jm c n<n:=⟨Int.emod_nonneg _ (by omega),Int.emod_lt_of_pos _ hn⟩
theorem pick_c {Y:Ty} {C:Cx} {F:Nat} {n:Int} (S:Nat->Row) (hx:∀ E:Env,E.s=S->CxOk E P Y C) {inner:zy} (hi:∀ E:Env,E.s=S->zi E P inner)
  (h0:zbb C 0 inner F [.si .i64 (.v 0),.i .i64 n] ⟨.h,.h,.e⟩ ⟨[(.cmp .lss (.v 0) (.lit 0),false)],[]⟩ (zmc (.si .i64 (.op .rem .i64 (.v 0) (.lit n))))=0)
  (h1:zbb C 0 inner F [.si .i64 (.v 0),.i .i64 n] ⟨.h,.h,.e⟩ ⟨[(.cmp .lss (.v 0) (.lit 0),true)],[]⟩ (zmc (.si .i64 (.op .rem .i64 (.op .sub .i64 (.lit 0) (.op .add .i64 (.v 0) (.lit 1))) (.lit n))))=0)
  {c:Int} (hc:-9223372036854775808<=c/\c<=9223372036854775807) (W:World) :
  Calls P F #[.int .i64 c,.int .i64 n] W fun e w'=>e=.returned (.int .i64 (jm c n))/\Below W.heap.size W w':=by
 obtain⟨E,hE⟩:∃ E:Env,E=⟨fun _=>c,fun _=>false,S⟩:=⟨_,rfl⟩
 have hS:E.s=S:=by rw[hE]
 have hEi:E.i 0=c:=by rw[hE]
 have fa1:∀ b:Bool,decide (c<0)=b->FaOk E ⟨[(.cmp .lss (.v 0) (.lit 0),b)],[]⟩:=fun b hb=>by
  refine⟨fun d x hm=>?_,fun _ _ _ hm=>by cases hm⟩
  rcases List.mem_cons.1 hm with e | hm
  ·cases e
   show iLt (E.i 0) 0=_
   rw[zbq,hEi];exact hb
  ·cases hm
 have hargs:(γL E (fun _=>⟨0,0⟩) [.si .i64 (.v 0),.i .i64 n]).toArray=#[.int .i64 c,.int .i64 n]:=by
  simp only[γL,V.γ,SE.den,hEi]
 cases hs:decide (c<0) with
 | false=>
  have hs':=of_decide_eq_false hs
  have h:=ze4 (hx E hS) (hi E hS) (fa1 false hs) h0 ⟨trivial,trivial,trivial⟩ (fun _=>⟨0,0⟩) W
  rw[hargs]at h
  refine h.mono ?_
  rintro e w' ⟨⟨ρ',rfl⟩,hb⟩
  refine⟨?_,hb⟩
  have:SE.den E (.op .rem .i64 (.v 0) (.lit n))=jm c n:=by
   show (E.i 0).tmod n=_
   rw[hEi,Int.tmod_eq_emod_of_nonneg (by omega),jm,if_neg hs']
  simp only[V.γ,this]
 | true=>
  have hs':=of_decide_eq_true hs
  have h:=ze4 (hx E hS) (hi E hS) (fa1 true hs) h1 ⟨trivial,trivial,trivial⟩ (fun _=>⟨0,0⟩) W
  rw[hargs]at h
  refine h.mono ?_
  rintro e w' ⟨⟨ρ',rfl⟩,hb⟩
  refine⟨?_,hb⟩
  have:SE.den E (.op .rem .i64 (.op .sub .i64 (.lit 0) (.op .add .i64 (.v 0) (.lit 1))) (.lit n))=jm c n:=by
   show (jS .i64 (0 - jS .i64 (E.i 0+1))).tmod n=_
   rw[hEi,z6,z6,IntKind.wrap_i64,IntKind.wrap_i64,jm,if_pos hs',Int.tmod_eq_emod_of_nonneg (by omega)]
   congr 1
   omega
  simp only[V.γ,this]
theorem zdX {Y:Ty} {C:Cx} {F:Nat} {n:Int} (hca:yl P F) (hx:∀ E':Env,E'.s=E.s->CxOk E' P Y C) {inner:zy} (hi:∀ E':Env,E'.s=E.s->zi E' P inner)
  (h0:zbb C 0 inner F [.si .i64 (.v 0),.i .i64 n] ⟨.h,.h,.e⟩ ⟨[(.cmp .lss (.v 0) (.lit 0),false)],[]⟩ (zmc (.si .i64 (.op .rem .i64 (.v 0) (.lit n))))=0)
  (h1:zbb C 0 inner F [.si .i64 (.v 0),.i .i64 n] ⟨.h,.h,.e⟩ ⟨[(.cmp .lss (.v 0) (.lit 0),true)],[]⟩ (zmc (.si .i64 (.op .rem .i64 (.op .sub .i64 (.lit 0) (.op .add .i64 (.v 0) (.lit 1))) (.lit n))))=0)
  {a:Nat} {v:V} (hb:-9223372036854775808<=E.i a/\E.i a<=9223372036854775807) (hv:v.bd 0) (hval:∀ ρ,v.γ E ρ=.int .i64 (jm (E.i a) n)) {rest:zy} (hr:zi E P rest) :
  zi E P (ziE F [.si .i64 (.v a),.i .i64 n] v rest):=by
 refine zzJ hca hv (fun ρ w=>?_) hr
 refine(pick_c E.s hx hi h0 h1 hb w).mono ?_
 rintro e w' ⟨rfl,hb'⟩
 exact⟨by rw[hval],hb'⟩
end Go.Ev
end
set_option linter.unusedSimpArgs false
set_option linter.unusedVariables false
noncomputable section
namespace Go.Ev
open Go
variable {E:Env}
theorem den_cvi {e:SE} {x:Int} (he:e.den E=x) (h0:0<=x) (h1:x<=9223372036854775807):SE.den E (.cv .i64 e)=x:=by
 show IntKind.i64.wrap (e.den E)=x
 rw[he,IntKind.wrap_i64];omega
theorem den_cvu {e:SE} {x:Int} (he:e.den E=x) (h0:0<=x) (h1:x<18446744073709551616):SE.den E (.cv .u64 e)=x:=by
 show IntKind.u64.wrap (e.den E)=x
 rw[he,IntKind.wrap_u64];omega
def sm (i:Nat) (e:SE):SB × Bool:=(.not (.cmp .neq e (.v i)),true)
def sl (e:SE) (n:Int):SB × Bool:=(.cmp .eql e (.lit n),true)
theorem fa_all {l:List (SB × Bool)} (h:∀ c∈l,SB.den E c.1=c.2):FaOk E ⟨l,[]⟩:=⟨fun c b hm=>h (c,b) hm,fun _ _ _ hm=>by cases hm⟩
theorem zmD {a b:SE} {x y:Int} {t:Bool} (ha:a.den E=x) (hb:b.den E=y) (h:decide (x<y)=t):(SB.cmp .lss a b).den E=t:=by
 show iLt (a.den E) (b.den E)=t
 rw[ha,hb,zbq];exact h
end Go.Ev
end
set_option linter.unusedSimpArgs false
set_option linter.unusedVariables false
noncomputable section
namespace Go.Ev
open Go Go.RowKit
variable {E:Env} {P:Program}
def hasN (i:Nat):List Nat->Bool
 | []=>false
 | a::r=>bc (Nat.beq i a) true (hasN i r)
def sgW (kp:List Nat) (a2:Option SE) (a5:SE):Sg:=fun i=>bc (Nat.beq i 1) (some (.v 1)) (bc (Nat.beq i 2) a2 (bc (Nat.beq i 5) (some a5) (bc (hasN i kp) (some (.v i)) none)))
theorem zt7 {i:Nat}:∀ {l:List Nat},i∈l->hasN i l=true
 | [],h=>by cases h
 | a::r,h=>by
  show bc (Nat.beq i a) true (hasN i r)=true
  cases e:Nat.beq i a with
  | true=>rfl
  | false=>
   rcases List.mem_cons.1 h with rfl | h
   ·simp at e
   ·exact zt7 h
theorem sgW_kp {kp:List Nat} {a2:Option SE} {a5:SE} {i:Nat} (h:i∈kp) (h1:i≠1) (h2:i≠2) (h5:i≠5):sgW kp a2 a5 i=some (.v i):=by
 unfold sgW
 have e1:Nat.beq i 1=false:=by rw[Bool.eq_false_iff];simpa using h1
 have e2:Nat.beq i 2=false:=by rw[Bool.eq_false_iff];simpa using h2
 have e5:Nat.beq i 5=false:=by rw[Bool.eq_false_iff];simpa using h5
 rw[e1,e2,e5,zt7 h];rfl
def Stays (kp:List Nat) (X:Env->Prop):Prop:=∀ E E',(∀ i∈kp,i≠1->i≠2->i≠5->E'.i i=E.i i)->E'.b=E.b->(∀ q,q<50->zlG (E'.s q) (E.s q))->X E->X E'
theorem Stays.tr {kp:List Nat} {X:Env->Prop} (h:Stays kp X) {a2:Option SE} {a5:SE} {E E':Env} (t:TrE (sgW kp a2 a5) E E') (hX:X E):X E':=
 h E E' (fun i hi h1 h2 h5=>t.i i _ (sgW_kp hi h1 h2 h5)) t.b t.s hX
end Go.Ev
end
set_option linter.unusedSimpArgs false
set_option linter.unusedVariables false
noncomputable section
namespace Go.Ev
open Go Go.RowKit
variable {E:Env} {P:Program}
end Go.Ev
end
