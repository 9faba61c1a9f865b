import Derived.Test.YtckgidiokbofiaaGreatDoorME3
import Derived.RangeFuncRecord
import Derived.RangeFuncLeaves
import Derived.RangeFuncSeq
import Derived.LoopNIn
import Derived.TacticsIn
import Derived.OrdersIn
import Derived.Scope
import Derived.Test.YtckgidiokbofiaaGreatDoorME1
import Derived.ScopeJumps
import Derived.Test.YtckgidiokbofiaaGreatDoorME2
import Derived.Below
set_option linter.unusedSimpArgs false
set_option linter.unusedVariables false
noncomputable section
namespace Go.Ev
open Go
variable {E:Env} {P:Program}
inductive OS where
 | o (x:O) | a (t n d:Nat) (z:V) (l:List (Nat × V)) | va (t n d:Nat) (z:V) (l:List (Nat × V)) | u (l:List (Nat × V))
def trGo (d:Nat) (l:List (Nat × V)) (t:Tr V):Tr V:=List.foldl (fun t p=>t.set d p.1 p.2) t l
def trK (d:Nat) (l:List (Nat × V)):Tr V->(Tr V->Nat)->Nat:=yC (fun t k=>k t) (fun p _ ih t k=>pc p (fun a v=>zaK t d a v (fun t=>ih t k))) l
def updO (l:List (Nat × V)) (o:O):O:=match o with
 | .arr t n d z tr=>.arr t n d z (trGo d l tr)
 | .varr t n d z tr=>.varr t n d z (trGo d l tr)
 | o=>o
def updK (l:List (Nat × V)) (o:O) (k:O->Nat):Nat:=match o with
 | .arr t n d z tr=>trK d l tr (fun tr=>k (.arr t n d z tr))
 | .varr t n d z tr=>trK d l tr (fun tr=>k (.varr t n d z tr))
 | o=>k o
def OS.mk (x:OS) (old:Option O):O:=match x with
 | .o x=>x
 | .a t n d z l=>.arr t n d z (trGo d l .nil)
 | .va t n d z l=>.varr t n d z (trGo d l .nil)
 | .u l=>oc old (updO l) .dead
def OS.mkK (x:OS) (old:Option O) (k:O->Nat):Nat:=match x with
 | .o x=>k x
 | .a t n d z l=>trK d l .nil (fun tr=>k (.arr t n d z tr))
 | .va t n d z l=>trK d l .nil (fun tr=>k (.varr t n d z tr))
 | .u l=>oc old (fun o=>updK l o k) (k .dead)
def ptGo (l:List (Ev.P × OS)) (t:PT O):PT O:=List.foldl (fun t p=>t.set p.1 (p.2.mk (t.get p.1))) t l
def ptK (l:List (Ev.P × OS)):PT O->(PT O->Nat)->Nat:=yC (fun t k=>k t) (fun p _ ih t k=>pc p (fun a x=>x.mkK (t.get a) (fun o=>zbo a t o (fun t=>ih t k)))) l
structure HS where
 n:Ev.P
 lo:Ev.P
 l:List (Ev.P × OS)
def HS.mk' (s:HS):H:=⟨s.n,s.lo,ptGo s.l .e⟩
def HS.mkK (s:HS) (k:H->Nat):Nat:=HS.rec (motive:=fun _=>Nat) (fun n lo l=>ptK l .e (fun t=>k ⟨n,lo,t⟩)) s
theorem ze6 (d:Nat):∀ (l:List (Nat × V)) (t:Tr V) (k:Tr V->Nat),trK d l t k=k (trGo d l t)
 | [],t,k=>rfl
 | (a,v)::r,t,k=>by
  have e:trK d ((a,v)::r) t k=zaK t d a v (fun t=>trK d r t k):=rfl
  rw[e,j2,ze6 d r];rfl
theorem updK_eq (l:List (Nat × V)) (o:O) (k:O->Nat):updK l o k=k (updO l o):=by
 cases o <;> try rfl
 ·show trK _ l _ _=_;rw[ze6];rfl
 ·show trK _ l _ _=_;rw[ze6];rfl
theorem OS.mkK_eq (x:OS) (old:Option O) (k:O->Nat):x.mkK old k=k (x.mk old):=by
 cases x with
 | o x=>rfl
 | a t n d z l=>show trK d l .nil _=_;rw[ze6];rfl
 | va t n d z l=>show trK d l .nil _=_;rw[ze6];rfl
 | u l=>
  cases old with
  | none=>rfl
  | some o=>show updK l o k=_;rw[updK_eq];rfl
theorem ptK_eq:∀ (l:List (Ev.P × OS)) (t:PT O) (k:PT O->Nat),ptK l t k=k (ptGo l t)
 | [],t,k=>rfl
 | (a,x)::r,t,k=>by
  have e:ptK ((a,x)::r) t k=x.mkK (t.get a) (fun o=>zbo a t o (fun t=>ptK r t k)):=rfl
  rw[e,OS.mkK_eq,zaP,ptK_eq r];rfl
theorem HS.mkK_eq (s:HS) (k:H->Nat):s.mkK k=k s.mk':=by
 cases s with
 | mk n lo l=>show ptK l .e _=_;rw[ptK_eq];rfl
structure MS where
 F:Nat
 l:List V
 h:HS
 v:V
 h':HS
def MS.m (s:MS):Memo:=⟨s.F,s.l,s.h.mk',s.v,s.h'.mk'⟩
def MS.run (s:MS) (call:zy) (fa:Fa):Nat:=s.h.mkK (fun h=>s.h'.mkK (fun h'=>call s.F s.l h fa (chk s.v h')))
theorem lone_ok {F:Nat} {v:V} {inner:zy} {fa0:Fa} (hi:zi E P inner) (hfa0:FaOk E fa0) (hv:v.bd 0) (hr:inner F [] ⟨.h,.h,.e⟩ fa0 (fun u _ _=>bc (V.beq u v) 0 1)=0) :
  zi E P (fun G l h fa k=>bc (Nat.beq G F) (jM (k v h fa) (fun _ _=>1) l) 1):=by
 intro G l h fa k hk hfa
 obtain⟨hG,hk2⟩:=zn (show bc (Nat.beq G F) (jM (k v h fa) (fun _ _=>1) l) 1=0 from hk) (by simp)
 clear hk
 have hG:G=F:=by simpa using hG
 subst hG
 cases l with
 | cons a r=>exact absurd (show (1:Nat)=0 from hk2) (by simp)
 | nil=>
 have hk:k v h fa=0:=hk2
 obtain⟨hca,u,h2,fa2,hc,_,hrun⟩:=hi _ _ _ _ _ hr hfa0
 obtain⟨hu,_⟩:=zn (show bc (V.beq u v) 0 1=0 from hc) (by simp)
 have hu:=V.beq_ok hu
 subst hu
 refine⟨hca,u,h,fa,hk,hfa,fun ρ w hb hs=>(hrun ρ w trivial ⟨fun p o hp=>?_,fun p q o o' hp=>?_,fun p o hp=>?_⟩).mono ?_⟩
 ·exact absurd (show (none:Option O)=some o from (PT.get_e p).symm.trans hp) (by simp)
 ·exact absurd (show (none:Option O)=some o from (PT.get_e p).symm.trans hp) (by simp)
 ·exact absurd (show (none:Option O)=some o from (PT.get_e p).symm.trans hp) (by simp)
 rintro e w' ⟨ρ',rfl,s,x,hv2⟩
 have hkeep:∀ b,b<w.heap.size->w'.heap[b]? = w.heap[b]?:=fun b hb=>x.keep b hb fun p o hp=>absurd (show (none:Option O)=some o from (PT.get_e p).symm.trans hp) (by simp)
 refine⟨ρ,?_,⟨fun p o hp=>O.Is_heap E (fun hl=>hkeep _ (O.Is_lt E (hs.obj p o hp) hl)) (hs.obj p o hp),hs.inj,hs.bd⟩,?_,bd_mono (Nat.zero_le _) u hv⟩
 ·rw[γ_agree E (n:=0) (fun i hi=>by omega) u hv]
 ·exact⟨Nat.le_refl _,rfl,fun _ _=>rfl,fun p o h1 h2=>by have:=(hs.bd p o h2).1;omega,x.os,x.tape,x.output,x.size,fun b hb _=>hkeep b hb,fun _ _ _=>rfl,fun p o _ h1 _=>⟨o,h1,by assumption⟩⟩
def endB:K:=fun v _ _=>bc (V.beq v (.b true)) 0 1
theorem zvL:zi E P (fun _ _ _ _ _=>1):=fun F l h fa k hk=>absurd (show (1:Nat)=0 from hk) (by simp)
def zmm (Q:Nat->IFn->Prop):Nat->Nat->Nat->Tr IFn->Prop
 | 0,_,b,.leaf a=>Q b a
 | d+1,s,b,.node l r=>zmm Q d (2*s) b l/\zmm Q d (2*s) (b+s) r
 | _,_,_,_=>True
theorem zA0 (k:Nat):zcF k=decide (k % 2=0):=by
 unfold zcF
 rw[Bool.eq_iff_iff,decide_eq_true_iff,Nat.beq_eq]
 exact Iff.rfl
theorem zcS {Q:Nat->IFn->Prop}:∀ (d s b k:Nat) (t:Tr IFn) (a:IFn),zmm Q d s b t->k<2 ^ d->t.get d k=some a->Q (b+s*k) a
 | 0,s,b,k,t,a,hg,hk,h=>by
  have:k=0:=by simpa using hk
  subst this
  cases t with
  | leaf x=>have h:some x=some a:=h;cases h;exact hg
  | nil=>cases h
  | node l r=>cases h
 | d+1,s,b,k,t,a,hg,hk,h=>by
  cases t with
  | leaf x=>cases h
  | nil=>cases h
  | node l r=>
   have h:Bool.rec (motive:=fun _=>Option IFn) (r.get d (Nat.div k 2)) (l.get d (Nat.div k 2)) (zcF k)=some a:=h
   rw[zA0]at h
   have hd:Nat.div k 2=k / 2:=rfl
   rw[hd]at h
   have hk2:k / 2<2 ^ d:=by rw[Nat.pow_succ]at hk;omega
   by_cases e:k % 2=0
   ·rw[decide_eq_true e]at h
    have:=zcS d (2*s) b (k / 2) l a hg.1 hk2 h
    rw[show b+2*s*(k / 2)=b+s*k by
     have:k=2*(k / 2):=by omega
     conv=>rhs;rw[this]
     rw[Nat.mul_comm 2 s,Nat.mul_assoc]]at this
    exact this
   ·rw[decide_eq_false e]at h
    have:=zcS d (2*s) (b+s) (k / 2) r a hg.2 hk2 h
    rw[show b+s+2*s*(k / 2)=b+s*k by
     have:k=2*(k / 2)+1:=by omega
     conv=>rhs;rw[this]
     rw[Nat.mul_comm 2 s,Nat.mul_assoc,Nat.mul_add,Nat.mul_one];omega]at this
    exact this
def zm (P:Program) (F:Nat) (i:IFn):Prop:=∃ (f:Func) (dr:Nat->Option Dr),P.funcs[F]? = some f/\yl P F/\cFn (zr P) dr f=some i/\(∀ c,f.body=some c->zH dr c=true)
def zby (dr:Nat->Option Dr) (f:Func):Bool:=match f.body with
 | some c=>zH dr c
 | none=>true
theorem zd {F:Nat} {i:IFn} {f:Func} {dr:Nat->Option Dr} (h1:P.funcs[F]? = some f) (h2:yl P F) (h3:cFn (zr P) dr f=some i) (h4:zby dr f=true):zm P F i:=
 ⟨f,dr,h1,h2,h3,fun c hc=>by unfold zby at h4;rw[hc]at h4;exact h4⟩
end Go.Ev
end
set_option linter.unusedSimpArgs false
set_option linter.unusedVariables false
noncomputable section
namespace Go.Ev
open Go
def N16.no (a:N16):Nat:=N16.rec (motive:=fun _=>Nat) 0 1 2 3 4 5 6 7 8 9 10 11 12 13 14 15 a
inductive YO where
 | cl (d t:Ky) (l:List Od) (g:Option (Ky × Bool)) (x:OI) | sub (d:Option Ky) (F:Nat) (l:List Od) (x:OI) | o (x:OI)
inductive YC where
 | skip | ret | exit (i:Nat) | seq (a b:YC) | cond (t:Ky) (a b:YC) | block (i:Nat) (a:YC) | loop (a:YC) | ops (l:List YO) | rng (g:Od) (ps:List Ky) (a b:YC) | det (c:IC) | qops (hd:List OI) (tl:List YO) | bad
abbrev Pd:=Option AE
abbrev KY:=AE->Fr->H->Fa->Pd->Nat
abbrev KY1:=Fr->H->Fa->Pd->Nat
abbrev zeC:=List V->H->Fa->(Bool->H->Fa->Pd->Nat)->Nat
abbrev zdM:=zeC->Ev.P->List V->H->Fa->(H->Fa->Pd->Nat)->Nat
abbrev zdL:=zeC->Ev.P->List V->H->Fa->(V->H->Fa->Pd->Nat)->Nat
structure YX where
 call:zy
 F:Nat
 fuel:Nat
 hand:zeC
 yid:Ev.P
 itr:Nat->Option zdM
 sub:Nat->Option zdL
abbrev SY:=YX->Fr->H->Fa->Pd->KY->Nat
def YX.x (c:YX):Ctx:=⟨c.call,c.F,c.fuel⟩
def zcX:zeC:=fun _ _ _ _=>1
def zdx:Nat->Option zdM:=fun _=>none
def zcb:Nat->Option zdL:=fun _=>none
def zff (x:OI) (c:YX) (fr:Fr) (h:H) (fa:Fa) (pd:Pd) (k:KY1):Nat:=
 OI.go zam jd x c.x fr h fa (fun fr h fa=>k fr h fa pd)
def zfH {α:Type} (x:Option α):Bool:=oc x (fun _=>true) false
def isYd (v:Option V) (id:Ev.P):Bool:=match v with
 | some (.yd a)=>pEq a id
 | _=>false
def stepY (x:YO) (c:YX) (fr:Fr) (h:H) (fa:Fa) (pd:Pd) (k:KY1):Nat:=match x with
 | .cl d t l g x=>bc (isYd (fr.get t) c.yid) (bc (zfH pd) 1 (jO c.x g fr fa (fun fa=>oc (ods l fr) (fun l=>c.hand l h fa (fun b h fa pd=>zb7 d fr (.b b) (fun fr=>k fr h fa pd))) 1) (fun _=>1))) (zff x c fr h fa pd k)
 | .sub d F l x=>oc (c.sub F) (fun s=>bc (zfH pd) 1 (oc (ods l fr) (fun vs=>s c.hand c.yid vs h fa (fun v h fa pd=>jC d v fr (fun fr=>k fr h fa pd))) 1)) (zff x c fr h fa pd k)
 | .o x=>zff x c fr h fa pd k
def opsY:List YO->YX->Fr->H->Fa->Pd->KY1->Nat
 | [],_,fr,h,fa,pd,k=>k fr h fa pd
 | x::r,c,fr,h,fa,pd,k=>stepY x c fr h fa pd (fun fr h fa pd=>opsY r c fr h fa pd k)
def zfV:List Ky->List V->Fr->(Fr->Nat)->Nat
 | [],[],fr,k=>k fr
 | p::ps,v::vs,fr,k=>zb7 p fr v (fun fr=>zfV ps vs fr k)
 | _,_,_,_=>1
def endR (e:AE) (h:H) (fa:Fa) (k:Bool->H->Fa->Pd->Nat):Nat:=je e (k true h fa none) (k false h fa (some .ret)) (fun i=>k false h fa (some (.exit i)))
def zlH (c:YX) (fr:Fr) (ps:List Ky) (ra rb:SY):zeC:=fun l h fa k=>
 zfV ps l fr (fun fr=>ra ⟨c.call,c.F,c.fuel,zcX,.h,zdx,zcb⟩ fr h fa none (fun e fr h fa pd=>bc (zfH pd) 1 (je e
  (rb ⟨c.call,c.F,c.fuel,zcX,.h,zdx,zcb⟩ fr h fa none (fun e fr h fa pd=>bc (zfH pd) 1 (endR e h fa k))) 1 (fun _=>1))))
def behindT (pd:Pd) (k:AE->Pd->Nat):Nat:=match pd with
 | none=>k .normal (some .normal)
 | some e=>k e (some .normal)
def nilL {α:Type} (l:List α):Bool:=jM true (fun _ _=>false) l
def y8:YC->SY
 | .skip=>fun _ fr h fa pd k=>k .normal fr h fa pd
 | .ret=>fun _ fr h fa pd k=>k .ret fr h fa pd
 | .exit i=>fun _ fr h fa pd k=>k (.exit i) fr h fa pd
 | .seq a b=>fun c fr h fa pd k=>y8 a c fr h fa pd (fun e fr h fa pd=>je e (y8 b c fr h fa pd k) (k .ret fr h fa pd) (fun i=>k (.exit i) fr h fa pd))
 | .cond t a b=>fun c fr h fa pd k=>way fa (fr.get t) (fun x fa=>bc x (y8 a c fr h fa pd k) (y8 b c fr h fa pd k)) 1
 | .block i a=>fun c fr h fa pd k=>y8 a c fr h fa pd (fun e fr h fa pd=>je e (k .normal fr h fa pd) (k .ret fr h fa pd) (fun j=>bc (Nat.beq j i) (k .normal fr h fa pd) (k (.exit j) fr h fa pd)))
 | .loop a=>fun c=>Nat.rec (motive:=fun _=>Fr->H->Fa->Pd->KY->Nat) (fun _ _ _ _ _=>1)
   (fun _ ih fr h fa pd k=>y8 a c fr h fa pd (fun e fr h fa pd=>je e (ih fr h fa pd k) (k .ret fr h fa pd) (fun i=>k (.exit i) fr h fa pd))) c.fuel
 | .ops l=>fun c fr h fa pd k=>opsY l c fr h fa pd (fun fr h fa pd=>k .normal fr h fa pd)
 | .rng g ps a b=>fun c fr h fa pd k=>vFn (od g fr) (fun G pre caps=>bc (nilL pre) (oc (c.itr G) (fun it=>zas h .dead (fun id h=>
   it (zlH c fr ps (y8 a) (y8 b)) id caps h fa (fun h fa pd=>behindT pd (fun e pd=>k e fr h fa pd)))) 1) 1) 1
 | .det x=>fun c fr h fa pd k=>jp x c.x fr h fa (fun e fr h fa=>k e fr h fa pd)
 | .qops hd tl=>fun c fr h fa pd k=>zdp hd c.x fr h fa (fun fr h fa=>opsY tl c fr h fa pd (fun fr h fa pd=>k .normal fr h fa pd))
 | .bad=>fun _ _ _ _ _ _=>1
def zvM (Y:Ty) (N:Nat) (all:List Oper) (o:Oper):Option YO:=match jQ Y N all o with
 | none=>none
 | some x=>match o.op with
  | .call cl=>match cl.callee,zeA cl.args.toList with
   | .value (.tmp t),some l=>match o.dst,zbt all o.guard with
    | some d,some g=>some (.cl (zp d) (zp t) l g x)
    | _,_=>some (.o x)
   | .value (.func F),some l=>match zef N o.dst,o.guard with
    | some d,none=>some (.sub d F l x)
    | _,_=>some (.o x)
   | _,_=>some (.o x)
  | _=>some (.o x)
def zbT (Y:Ty) (N:Nat) (all:List Oper):List Oper->Option (List YO)
 | []=>some []
 | o::r=>match zvM Y N all o,zbT Y N all r with
  | some a,some b=>some (a::b)
  | _,_=>none
def zwK:List YO->Bool
 | []=>false
 | .o _::r=>zwK r
 | _::_=>true
def zur (Y:Ty) (N:Nat) (dr:Nat->Option Dr) (id:Nat) (ops:Array Oper):YC:=bc (zH dr (.region id ops true)) (match dr id with
 | some (.tail m tl)=>match zY Y N ops.toList (ops.toList.take m),zbT Y N ops.toList (EvQ.pick ops tl) with
  | some hd,some t=>bc (EvQ.lexTailP .any ops m tl && zwK t) (.qops hd t) (.det (yo Y N dr (.region id ops true)))
  | _,_=>.det (yo Y N dr (.region id ops true))
 | _=>.det (yo Y N dr (.region id ops true))) .bad
def z4 (Y:Ty) (N:Nat) (dr:Nat->Option Dr):Code->Bool->YC
 | .skip,_=>.skip
 | .ret,_=>.ret
 | .exit i,_=>.exit i
 | .label _,_=>.skip
 | .seq a b,sc=>.seq (z4 Y N dr a sc) (z4 Y N dr b sc)
 | .cond (.tmp t) a b,sc=>.cond (zp t) (z4 Y N dr a sc) (z4 Y N dr b sc)
 | .block i a,sc=>.block i (z4 Y N dr a sc)
 | .loop a,sc=>.loop (z4 Y N dr a sc)
 | .scope a,sc=>bc sc (z4 Y N dr a sc) .bad
 | .region _ ops false,_=>match zbT Y N ops.toList ops.toList with
  | some l=>.ops l
  | none=>.bad
 | .region id ops true,sc=>bc sc (zur Y N dr id ops) .bad
 | .rangeFunc g ps a b,_=>match cOd g with
  | some g=>if yP (fun p=>Nat.blt p N) ps.toList then .rng g (ps.toList.map zp) (z4 Y N dr a false) (z4 Y N dr b false) else .bad
  | none=>.bad
 | _,_=>.bad
def itrT (yc:YC) (call:zy) (F fuel:Nat) (sub:Nat->Option zdL):zdM:=fun hand id l h fa k=>zbp (.yd id::l) (fun fr=>y8 yc ⟨call,F,fuel,hand,id,zdx,sub⟩ fr h fa none (fun e fr h fa pd=>je e (k h fa pd) (k h fa pd) (fun _=>1)))
def subT (yc:YC) (rs:List IR) (call:zy) (F fuel:Nat) (sub:Nat->Option zdL):zdL:=fun hand id l h fa k=>zbp l (fun fr=>y8 yc ⟨call,F,fuel,hand,id,zdx,sub⟩ fr h fa none (fun e fr h fa pd=>je e (za0 rs fr h (fun v=>k v h fa pd) 1) (za0 rs fr h (fun v=>k v h fa pd) 1) (fun _=>1)))
def rfnT (yc:YC) (rs:List IR) (call:zy) (F fuel:Nat) (itr:Nat->Option zdM):List V->H->Fa->K->Nat:=fun l h fa k=>
 zbp l (fun fr=>y8 yc ⟨call,F,fuel,zcX,.h,itr,zcb⟩ fr h fa none (fun e fr h fa _=>je e (za0 rs fr h (fun v=>k v h fa) 1) (za0 rs fr h (fun v=>k v h fa) 1) (fun _=>1)))
end Go.Ev
end
set_option linter.unusedSimpArgs false
set_option linter.unusedVariables false
noncomputable section
namespace Go.Ev
open Go
variable {E:Env} {P:Program} {N:Nat}
theorem bc_eqB (x y:Bool):bc x y false=(x && y):=by cases x <;> rfl
def Fd (r:Option Nat):Fence:={ Fence.wide with round:=r }
theorem zfR {r:Option Nat} {n:Nat} {f:FuncId} {args:Array Value} {w:World} {R:Ending->World->Prop} (h:Calls P f args w R):CallsIn (Fd r) n P f args w R:=
 (callsIn_wide (n:=n)).2 h
theorem zzH (a:Act) (d:Option Tmp) (v:Value):((⟨a.tmps,[]⟩:Act).put d v).tmps=(a.put d v).tmps:=by cases d <;> rfl
theorem put_defers (a:Act) (d:Option Tmp) (v:Value):(a.put d v).defers=a.defers:=by cases d <;> rfl
theorem op_in {r:Option Nat} {n:Nat} {o:Oper} {a:Act} {w:World} {K:Act->World->Prop} {Q:Exit->Act->World->Prop} (hnd:∀ c,o.op≠.defer c) (hK:∀ a w,K a w->a.defers=[])
  (h:o.wp P ⟨a.tmps,[]⟩ w K (fun _ _ _=>False)):o.wpIn (Fd r) n P a w (fun a' w'=>∃ v,K ((⟨a.tmps,[]⟩:Act).put o.dst v) w'/\a'=a.put o.dst v) Q:=by
 unfold Oper.wpIn
 refine⟨fun _ _=>trivial,?_⟩
 rw[show o.semAt (Fd r).round a.eval=execOp a.eval o from Oper.semAt_eq r a.eval o hnd]
 have he:(⟨a.tmps,[]⟩:Act).eval=a.eval:=by funext x;cases x <;> rfl
 unfold Oper.wp at h
 rw[he]at h
 revert h
 generalize (execOp a.eval o).run P w=res
 intro h
 unfold Oper.upon at h
 split at h
 ·exact⟨_,h,rfl⟩
 ·exact⟨_,h,rfl⟩
 ·have:=hK _ _ h
  rw[put_defers]at this
  cases this
 ·refine⟨fun h=>by simp[Fd,Fence.wide]at h,(zfR h).mono ?_⟩
  intro e w2 he
  cases e with
  | returned v=>exact⟨_,he,rfl⟩
  | panicked c=>exact he.elim
  | outgrown=>obtain⟨_,_,hf⟩:=he;exact hf.elim
 ·refine⟨fun h=>by simp[Fd,Fence.wide]at h,fun c cs _=>?_⟩
  obtain⟨v,w2,hh,hs⟩:=h c cs
  exact⟨v,w2,⟨_,hh,rfl⟩,stepsIn_wide.2 hs⟩
 ·exact h.elim
 ·exact h.elim
theorem zfU {Y:Ty} {all:List Oper} {o:Oper} {x:OI} (hx:jQ Y N all o=some x):∀ c,o.op≠.defer c:=by
 intro c hc
 obtain⟨d,g,_,_,h⟩:=z8 hx
 rcases h with ⟨i,hi,_⟩ | ⟨cl,_,_,_,hop,_⟩
 ·rw[hc]at hi;simp[cOp]at hi
 ·rw[hc]at hop;cases hop
section
variable {ops:Array Oper} {md:Region.Mode} {C:World->Prop} {nn:Nat}
theorem ze0 {i:Nat} {a:Act} {K:Act->Prop} {K':Act->World->Prop} {Q':Exit->Act->World->Prop} {w:World} (hC:C w) (h:∀ a w',C w'->K a->K' a w') (hh:Go.qOp P ops C i K a):wpOpIn Fence.wide nn P ops Q' i K' a w:=by
 unfold Go.qOp at hh
 unfold wpOpIn
 split
 ·rename_i ho;simp only[ho]at hh;exact h _ _ hC hh
 ·rename_i o ho
  simp only[ho]at hh
  split
  ·rename_i hw
   simp only[hw,if_true]at hh
   obtain⟨v,h1,h2⟩:=hh
   have h3:=h1 w hC
   unfold Oper.quietAt at h3
   unfold Oper.wpIn
   refine⟨fun _ _=>trivial,?_⟩
   rw[show Fence.wide.round=none from rfl,Oper.semAt_none]
   generalize (execOp a.eval o).run P w=r at *
   cases r with
   | ok x w'=>
    cases x <;> simp only[Oper.quietUpon]at h3 <;> simp only[Oper.uponIn]
    case value u=>obtain⟨e1,e2⟩:=h3;rw[e1,e2];exact h _ _ hC h2
    case skip=>obtain⟨e1,e2⟩:=h3;rw[e1,<- e2];exact h _ _ hC h2
    case enter f args=>
     obtain⟨e1,hc⟩:=h3
     rw[e1]
     exact⟨fun h=>by simp[Fence.wide]at h,(callsIn_wide.2 hc).mono fun e w'' ⟨he,hw''⟩=>by subst he;exact h _ _ hw'' h2⟩
   | halt x w'=>simp only[Oper.quietUpon]at h3
  ·rename_i hw;simp only[hw]at hh;exact⟨fun _ _=>trivial,h _ _ hC hh⟩
theorem zt6 {n g:Nat} {L:Array Bool->Act->Prop} {Q':Exit->Act->World->Prop} (hL:∀ listed a w,C w->L listed a->wpAnyIn Fence.wide nn P md ops Q' g listed a w) :
  ∀ (f:Nat) (listed:Array Bool) (a:Act) (w:World),C w->EvQ.headQ P md ops C n L f listed a->wpAnyIn Fence.wide nn P md ops Q' (f+g) listed a w:=by
 intro f
 induction f with
 | zero=>intro listed a w hw h;rw[Nat.zero_add];exact hL _ _ _ hw h
 | succ f ih=>
  intro listed a w hw h
  have e:f+1+g=(f+g)+1:=by omega
  rw[e]
  exact⟨fun h0=>absurd h0 h.1,fun i hi=>ze0 hw (fun a' w' hw' h'=>ih _ a' w' hw' h') (h.2 i hi).2⟩
theorem zbX {Q':Exit->Act->World->Prop}:∀ (tl:List Nat) (listed:Array Bool) (a:Act) (w:World),(∀ i∈tl,i<ops.size) ->
  EvQ.seqP md ops tl listed=true->wpListIn Fence.wide nn P ops Q' (EvQ.pick ops tl) a w->wpAnyIn Fence.wide nn P md ops Q' tl.length listed a w
 | [],_,_,_,_,hB,h=>⟨by simpa [EvQ.seqP] using hB,h⟩
 | k::tl,listed,a,w,hl,hB,h=>by
  have hk:k<ops.size:=hl k List.mem_cons_self
  have h0:ops[k]? = some ops[k]:=by simp[hk]
  simp only[EvQ.seqP,Bool.and_eq_true,decide_eq_true_eq]at hB
  refine⟨fun h1=>(by rw[hB.1]at h1;cases h1),fun i hi=>?_⟩
  rw[hB.1]at hi
  have hik:i=k:=by simpa using hi
  subst hik
  have hp:EvQ.pick ops (i::tl)=ops[i]::EvQ.pick ops tl:=by simp[EvQ.pick,h0]
  rw[hp]at h
  have hw:wpOpIn Fence.wide nn P ops Q' i (wpListIn Fence.wide nn P ops Q' (EvQ.pick ops tl)) a w:=by unfold wpOpIn;simp only[h0];exact h
  exact wpOpIn_mono (fun a' w' h'=>zbX tl _ a' w' (fun j hj=>hl j (List.mem_cons_of_mem _ hj)) hB.2 h') hw
theorem zc9 {id:Nat} {Q:Exit->Act->World->Prop} {a:Act} {w:World} (n:Nat) (tl:List Nat) (hm:P.follows .mixedOrders=true) (hB:EvQ.lexTailP .any ops n tl=true) (hC:C { w with drawn:=w.drawn+1 })
  (h:wpQuiet P ops C (fun a'=>∀ w',C w'->wpListIn Fence.wide nn P ops Q (EvQ.pick ops tl) a' w') (ops.toList.take n) a):(Code.region id ops true).wpIn Fence.wide nn P Q a w:=by
 simp only[EvQ.lexTailP,Bool.and_eq_true,decide_eq_true_eq]at hB
 obtain⟨⟨⟨⟨⟨⟨hsel,hn⟩,hs⟩,hc⟩,hsz⟩,hall⟩,hlex⟩:=hB
 have htl:∀ i∈tl,n<=i/\i<ops.size:=fun i hi=>by simpa using List.all_eq_true.1 hall i hi
 have hlen:(ops.toList.take n).length=n:=by simp;omega
 have inv:HeadInv .any ops n (Array.replicate ops.size false):=
  ⟨by simp,fun j oj _ hl=>by rw[getD_replicate_false]at hl;simp at hl,fun t _ ht=>getD_in (by simpa using ht) (getD_replicate_false _ _)⟩
 have h1:=EvQ.headQ_lex (P:=P) (C:=C) (md:=.any) (tl:=tl) (fun i hi=>(htl i hi).1) hsel (fun listed inv i hi hun t ht=>EvQ.tailB_waits hs hc hn inv _ i rfl hi hun t ht) (ops.toList.take n) 0 _ a (fun j hj=>by
  have hj:j<n:=by omega
  simp[List.getElem?_take,hj]) (by simpa using hlen) inv (by rw[hlen];exact hlex) h
 rw[hlen]at h1
 refine wpIn_region_any hm ?_
 rw[show wpAnyIn Fence.wide nn P .any ops Q ops.size=wpAnyIn Fence.wide nn P .any ops Q (n+tl.length) from by rw[hsz]]
 refine zt6 (C:=C) (fun listed a' w' hw' hL=>?_) n _ a _ hC h1
 exact zbX tl listed a' w' (fun i hi=>(htl i hi).2) hL.1 (hL.2 w' hw')
end
structure Md where
 m:World->World
 J:Pd->List Deferred->Rho->H->World->Prop
structure MdOk (E:Env) (M:Md):Prop where
 step:∀ {pd ds ρ h w ρ' h' w'},Sat E ρ h w->Sat E ρ' h' w'->Ext ρ h w ρ' h' w'->M.J pd ds ρ h w->M.J pd ds ρ' h' w'/\Ext ρ h (M.m w) ρ' h' (M.m w')
def AtY (E:Env) (N:Nat) (M:Md) (ρ:Rho) (h:H) (w:World) (fr':Fr) (h':H) (pd':Pd) (a':Act) (w':World):Prop:=
 ∃ ρ',zw E ρ' h'.n.toNat fr' a'.tmps/\N<=a'.tmps.size/\Sat E ρ' h' w'/\M.J pd' a'.defers ρ' h' w'/\Ext ρ h (M.m w) ρ' h' (M.m w')
theorem AtY.trans {M:Md} {ρ ρ1:Rho} {h h1:H} {w w1:World} (hx:Ext ρ h (M.m w) ρ1 h1 (M.m w1)) {fr:Fr} {h':H} {pd:Pd} {a:Act} {w':World} (s:AtY E N M ρ1 h1 w1 fr h' pd a w'):AtY E N M ρ h w fr h' pd a w':=by
 obtain⟨ρ',a1,a2,a4,a5,a6⟩:=s
 exact⟨ρ',a1,a2,a4,a5,hx.trans a6⟩
theorem AtY.of_at {M:Md} (hM:MdOk E M) {pd:Pd} {DS:List Deferred} {ρ:Rho} {h:H} {w:World} {fr:Fr} {h':H} {a:Act} {w':World} (hs:Sat E ρ h w) (hJ:M.J pd DS ρ h w) (s:At E N DS ρ h w fr h' a w'):AtY E N M ρ h w fr h' pd a w':=by
 obtain⟨ρ',f1,n1,d1,s1,x1⟩:=s
 obtain⟨j1,x2⟩:=hM.step hs s1 x1 hJ
 exact⟨ρ',f1,n1,s1,by rw[d1];exact j1,x2⟩
def yvOf (l:Nat):Value:=.func (.yield l) #[] #[]
def zcP {ι:Type} (E:Env) (P:Program) (M:ι->Md) (yid:Ev.P) (hand:zeC):Prop:=∀ l h fa k,hand l h fa k=0->FaOk E fa->∃ b h' fa' pd',k b h' fa' pd'=0/\FaOk E fa' /\
 ∀ i n ρ w ds,bdL h.n.toNat l->Sat E ρ h w->(M i).J none ds ρ h w->YieldAt Fence.wide n P (ρ yid).b (γL E ρ l).toArray w fun e w'=>
  e=.returned (.bool b)/\∃ ρ',Sat E ρ' h' w'/\(M i).J pd' ds ρ' h' w'/\Ext ρ h ((M i).m w) ρ' h' ((M i).m w')
theorem zd0 {ι:Type} {M:ι->Md} {yid:Ev.P}:zcP E P M yid zcX:=fun l h fa k hk=>absurd (show (1:Nat)=0 from hk) (by simp)
def SubA {ι:Type} (E:Env) (P:Program) (M:ι->Md) (yid:Ev.P) (hand:zeC) (sub:Nat->Option zdL):Prop:=∀ F s,sub F=some s->yl P F/\∀ l h fa k,s hand yid l h fa k=0->FaOk E fa->∃ v h' fa' pd',k v h' fa' pd'=0/\FaOk E fa' /\
 ∀ i ρ w ds,bdL h.n.toNat l->Sat E ρ h w->(M i).J none ds ρ h w->Calls P F (γL E ρ l).toArray w fun e w'=>
  ∃ ρ',e=.returned (v.γ E ρ')/\Sat E ρ' h' w'/\(M i).J pd' ds ρ' h' w'/\Ext ρ h ((M i).m w) ρ' h' ((M i).m w')/\v.bd h'.n.toNat
theorem za1 {ι:Type} {M:ι->Md} {yid:Ev.P} {hand:zeC}:SubA E P M yid hand zcb:=fun F s h=>by cases h
def zja (r:Option Nat) (n:Nat) (P:Program) (ops:Array Oper) (o:Oper) (a:Act) (w:World) (K:Act->World->Prop) (Q:Exit->Act->World->Prop):Prop:=
 if Region.wanted o (yielded ops a.tmps)=true then o.wpIn (Fd r) n P a w K Q else (∀ f,o.about P w a.eval=some f->(Fd r).fn f)/\K (a.put o.dst undef) w
theorem zel {F:Fence} {n:Nat} {o:Oper} {a:Act} {w:World} {K K':Act->World->Prop} {Q:Exit->Act->World->Prop} (hK:∀ a w,K a w->K' a w) (h:o.wpIn F n P a w K Q):o.wpIn F n P a w K' Q:=by
 unfold Oper.wpIn at h ⊢
 refine⟨h.1,?_⟩
 have h:=h.2
 revert h
 generalize (o.semAt F.round a.eval).run P w=res
 intro h
 unfold Oper.uponIn at h ⊢
 split at h
 ·exact hK _ _ h
 ·exact hK _ _ h
 ·exact hK _ _ h
 ·exact⟨h.1,h.2.mono fun e w' he=>by cases e <;> first | exact hK _ _ he | exact he⟩
 ·exact⟨h.1,h.2.mono fun v w' he=>hK _ _ he⟩
 ·exact⟨h.1,h.2.mono fun e w' he=>by cases e <;> first | exact hK _ _ he | exact he⟩
 ·exact h
 ·exact h.elim
section
variable {ι:Type} {M:ι->Md}
theorem zw8 {Y:Ty} (hY:TyOk P Y) {ops:Array Oper} {o:Oper} {x:OI} (hx:jQ Y N ops.toList o=some x) {c:YX} (hcall:zi E P c.call) (hM:∀ i,MdOk E (M i))
  {fr:Fr} {h:H} {fa:Fa} {pd:Pd} {k:KY1} (hfa:FaOk E fa) (hk:zff x c fr h fa pd k=0) :
  ∃ fr' h' fa' pd',k fr' h' fa' pd'=0/\FaOk E fa'/\∀ i r n ρ w a Q,Sat E ρ h w->zw E ρ h.n.toNat fr (a:Act).tmps->N<=a.tmps.size->(M i).J pd a.defers ρ h w ->
   zja r n P ops o a w (AtY E N (M i) ρ h w fr' h' pd') Q:=by
 obtain⟨fr',h',fa',hk,hfa',hrun⟩:=zaF hY hx (c:=c.x) hcall hfa hk
 refine⟨fr',h',fa',pd,hk,hfa',fun i r n ρ w a Q hs hf hN hJ=>?_⟩
 have fin:∀ v w',At E N [] ρ h w fr' h' ((⟨a.tmps,[]⟩:Act).put o.dst v) w'->AtY E N (M i) ρ h w fr' h' pd (a.put o.dst v) w':=by
  rintro v w' ⟨ρ',f1,n1,d1,s1,x1⟩
  rw[zzH]at f1 n1
  obtain⟨j1,x2⟩:=(hM i).step hs s1 x1 hJ
  exact⟨ρ',f1,n1,s1,by rw[put_defers];exact j1,x2⟩
 unfold zja
 rcases hrun ρ w ⟨a.tmps,[]⟩ (fun _ _ _=>False) hs hf hN rfl with ⟨hw,hwp⟩ | ⟨hw,hA⟩
 ·rw[if_pos hw]
  refine zel ?_ (op_in (zfU hx) (fun a w hA=>hA.choose_spec.2.2.1) hwp)
  rintro a' w' ⟨v,hv,rfl⟩
  exact fin v w' hv
 ·have hw:Region.wanted o (yielded ops a.tmps)=false:=hw
  rw[if_neg (by simp[hw])]
  exact⟨fun _ _=>trivial,fin undef w hA⟩
theorem zc1 {α:Type} {x:Option α} (h:zfH x=false):x=none:=by cases x with
 | none=>rfl
 | some a=>cases h
theorem zmi {x:Bool} {a e:Nat} (h:bc x e a=0) (he:e≠0):x=false/\a=0:=by
 cases x with
 | false=>exact⟨rfl,h⟩
 | true=>exact absurd h he
theorem zyh {t:Nat} {d:Option Ky} (h:zef N (some t)=some d):t<N:=by
 simp only[zef]at h
 split at h
 ·rename_i hh;simpa using hh
 ·simp at h
theorem isYd_ok {v:Option V} {id:Ev.P} (h:isYd v id=true):v=some (.yd id):=by
 unfold isYd at h
 split at h
 ·rw[jn h]
 ·cases h
theorem zw7 {Y:Ty} (hY:TyOk P Y) {ops:Array Oper} {o:Oper} {x:YO} (hx:zvM Y N ops.toList o=some x) {c:YX} (hcall:zi E P c.call) (hM:∀ i,MdOk E (M i)) (hh:zcP E P M c.yid c.hand) (hsub:SubA E P M c.yid c.hand c.sub)
  {fr:Fr} {h:H} {fa:Fa} {pd:Pd} {k:KY1} (hfa:FaOk E fa) (hk:stepY x c fr h fa pd k=0) :
  ∃ fr' h' fa' pd',k fr' h' fa' pd'=0/\FaOk E fa'/\∀ i r n ρ w a Q,Sat E ρ h w->zw E ρ h.n.toNat fr (a:Act).tmps->N<=a.tmps.size->(M i).J pd a.defers ρ h w ->
   zja r n P ops o a w (AtY E N (M i) ρ h w fr' h' pd') Q:=by
 unfold zvM at hx
 split at hx
 ·simp at hx
 rename_i x0 hx0
 have plain:∀ k',zff x0 c fr h fa pd k=0->_:=fun (k':Unit) hk=>zw8 (M:=M) hY hx0 hcall hM hfa hk
 split at hx
 rotate_left
 ·simp at hx;subst hx
  exact plain () hk
 rename_i cl hop
 split at hx
 ·rename_i t l hcal hl
  split at hx
  rotate_left
  ·simp at hx;subst hx
   exact plain () hk
  rename_i d g hdst hg
  simp at hx;subst hx
  have hk:bc (isYd (fr.get (zp t)) c.yid) (bc (zfH pd) 1 (jO c.x g fr fa (fun fa=>oc (ods l fr) (fun l=>c.hand l h fa (fun b h fa pd=>zb7 (zp d) fr (.b b) (fun fr=>k fr h fa pd))) 1) (fun _=>1))) (zff x0 c fr h fa pd k)=0:=hk
  cases hm:isYd (fr.get (zp t)) c.yid with
  | false=>rw[hm]at hk;exact plain () hk
  | true=>
   rw[hm]at hk
   have hyt:=isYd_ok hm
   obtain⟨hp0,hk1⟩:=zmi (show bc (zfH pd) 1 _=0 from hk) (by simp)
   clear hk
   have hp0:=zc1 hp0
   subst hp0
   rcases yE hg hfa hk1 with ⟨fa1,hfa1,hk,hw⟩ | ⟨fa1,hfa1,hk,hw⟩
   rotate_left
   ·exact absurd (show (1:Nat)=0 from hk) (by simp)
   obtain⟨vs,hvs,hk⟩:=zA hk (by simp)
   obtain⟨b,h',fa',pd',hk,hfa',hrun⟩:=hh vs h fa1 _ hk hfa1
   obtain⟨fr',hk,g1,g2⟩:=zbH hk
   have hlt:d<N:=by
    obtain⟨d',g',hd',_⟩:=z8 hx0
    rw[hdst]at hd'
    exact zyh hd'
   refine⟨fr',h',fa',pd',hk,hfa',fun i r n ρ w a Q hs hf hN hJ=>?_⟩
   have hyv:=(hf t _ hyt).1
   obtain⟨e2,b2⟩:=zbJ hf hl hvs
   have hargs:cl.args.map a.eval=(γL E ρ vs).toArray:=Array.toList_inj.1 (by rw[Array.toList_map];exact e2)
   obtain⟨fn,tmps,asg,body,hyd,hround⟩:=hrun i (n - 1) ρ w a.defers b2 hs hJ
   unfold zja
   rw[if_pos (hw ρ _ a hf)]
   unfold Oper.wpIn
   refine⟨fun _ _=>trivial,?_⟩
   have hev:a.eval (.tmp t)=.func (.yield (ρ c.yid).b) #[] #[]:=by
    simp[Act.eval,hyv,V.γ]
   have hex:(execOp a.eval o).run P w=.ok (.round (ρ c.yid).b fn tmps asg body) w:=by
    rw[<- hyd]
    simp[execOp,hop,resolve,hcal,hev,Deferred.ofValue,invoke,hargs]
   rw[show o.semAt (Fd r).round a.eval=execOp a.eval o from Oper.semAt_eq r a.eval o (zfU hx0),hex,Oper.uponIn_round]
   refine⟨fun h=>by simp[Fd,Fence.wide]at h,RoundIn.mono hround ?_⟩
   rintro e w' ⟨rfl,ρ',s1,j1,x1⟩
   show AtY E N (M i) ρ h w fr' h' pd' (a.put o.dst (.bool b)) w'
   have hds:d<a.tmps.size:=Nat.lt_of_lt_of_le hlt hN
   refine⟨ρ',?_,by rw[hdst];simpa [Act.put] using hN,s1,by rw[put_defers];exact j1,x1⟩
   rw[hdst]
   exact(hf.mono x1.len x1.agree).set (v:=.b b) hds trivial g1 g2
 ·rename_i F l hcal hl
  split at hx
  rotate_left
  ·simp at hx;subst hx
   exact plain () hk
  rename_i d hd hg
  simp at hx;subst hx
  have hk:oc (c.sub F) (fun s=>bc (zfH pd) 1 (oc (ods l fr) (fun vs=>s c.hand c.yid vs h fa (fun v h fa pd=>jC d v fr (fun fr=>k fr h fa pd))) 1)) (zff x0 c fr h fa pd k)=0:=hk
  cases hsf:c.sub F with
  | none=>rw[hsf]at hk;exact plain () hk
  | some s=>
   rw[hsf]at hk
   obtain⟨hp0,hk1⟩:=zmi (show bc (zfH pd) 1 _=0 from hk) (by simp)
   clear hk
   have hp0:=zc1 hp0
   subst hp0
   obtain⟨vs,hvs,hk⟩:=zA hk1 (by simp)
   obtain⟨hca,hs0⟩:=hsub F s hsf
   obtain⟨v,h',fa',pd',hk,hfa',hrun⟩:=hs0 vs h fa _ hk hfa
   obtain⟨fr',h1,h2⟩:=z7 hd hk
   refine⟨fr',h',fa',pd',h1,hfa',fun i r n ρ w a Q hs hf hN hJ=>?_⟩
   obtain⟨e2,b2⟩:=zbJ hf hl hvs
   have hargs:cl.args.map a.eval=(γL E ρ vs).toArray:=Array.toList_inj.1 (by rw[Array.toList_map];exact e2)
   unfold zja
   rw[if_pos (by simp[Region.wanted,hg])]
   unfold Oper.wpIn
   refine⟨fun _ _=>trivial,?_⟩
   have hex:(execOp a.eval o).run P w=.ok (.enter F (γL E ρ vs).toArray) w:=by
    have:=hca (γL E ρ vs).toArray w
    simpa [execOp,hop,resolve,hcal,Act.eval,Deferred.ofValue,invoke,hargs] using this
   rw[show o.semAt (Fd r).round a.eval=execOp a.eval o from Oper.semAt_eq r a.eval o (zfU hx0),hex,Oper.uponIn_enter]
   refine⟨fun h=>by simp[Fd,Fence.wide]at h,(zfR (hrun i ρ w a.defers b2 hs hJ)).mono ?_⟩
   rintro e w' ⟨ρ',rfl,s1,j1,x1,vb⟩
   show AtY E N (M i) ρ h w fr' h' pd' (a.put o.dst (v.γ E ρ')) w'
   obtain⟨g1,g2,g3⟩:=h2 E ρ' _ a (hf.mono x1.len x1.agree) hN vb
   exact⟨ρ',g1,g2,s1,by rw[put_defers];exact j1,x1⟩
 ·simp at hx;subst hx
  exact plain () hk
end
end Go.Ev
end
set_option linter.unusedSimpArgs false
set_option linter.unusedVariables false
noncomputable section
namespace Go.Ev
open Go
variable {E:Env} {P:Program} {N:Nat} {ι:Type} {M:ι->Md}
theorem zfv {Y:Ty} (hY:TyOk P Y) {ops:Array Oper} {c:YX} (hcall:zi E P c.call) (hM:∀ i,MdOk E (M i)) (hh:zcP E P M c.yid c.hand) (hsub:SubA E P M c.yid c.hand c.sub) {k:KY1}:∀ (l:List Oper) (l':List YO) (fr:Fr) (h:H) (fa:Fa) (pd:Pd),
  zbT Y N ops.toList l=some l'->FaOk E fa->opsY l' c fr h fa pd k=0 ->
  ∃ fr' h' fa' pd',k fr' h' fa' pd'=0/\FaOk E fa'/\∀ i r n ρ w a QQ,Sat E ρ h w->zw E ρ h.n.toNat fr (a:Act).tmps->N<=a.tmps.size->(M i).J pd a.defers ρ h w ->
   (∀ a' w',AtY E N (M i) ρ h w fr' h' pd' a' w'->QQ .normal a' w')->wpListIn (Fd r) n P ops QQ l a w
 | [],l',fr,h,fa,pd,hl,hfa,hk=>by
  simp[zbT]at hl;subst hl
  exact⟨fr,h,fa,pd,hk,hfa,fun i r n ρ w a QQ hs hf hN hJ hq=>hq a w ⟨ρ,hf,hN,hs,hJ,Ext.refl ρ h _ (fun p o hp=>(hs.bd p o hp).1)⟩⟩
 | o::r0,l',fr,h,fa,pd,hl,hfa,hk=>by
  simp only[zbT]at hl
  split at hl
  rotate_left
  ·simp at hl
  rename_i x l2 hx hl2
  simp at hl;subst hl
  have hk:stepY x c fr h fa pd (fun fr h fa pd=>opsY l2 c fr h fa pd k)=0:=hk
  obtain⟨fr1,h1,fa1,pd1,hk1,hfa1,h2⟩:=zw7 hY hx hcall hM hh hsub hfa hk
  obtain⟨fr2,h2',fa2,pd2,hk2,hfa2,h3⟩:=zfv hY hcall hM hh hsub r0 l2 fr1 h1 fa1 pd1 hl2 hfa1 hk1
  refine⟨fr2,h2',fa2,pd2,hk2,hfa2,fun i r n ρ w a QQ hs hf hN hJ hq=>?_⟩
  have next:∀ a1 w1,AtY E N (M i) ρ h w fr1 h1 pd1 a1 w1->wpListIn (Fd r) n P ops QQ r0 a1 w1:=by
   rintro a1 w1 ⟨ρ1,f1,n1,s1,j1,x1⟩
   exact h3 i r n ρ1 w1 a1 QQ s1 f1 n1 j1 (fun a' w' hA=>hq a' w' (hA.trans x1))
  have h4:=h2 i r n ρ w a QQ hs hf hN hJ
  unfold zja at h4
  unfold wpListIn
  split at h4
  ·rename_i hw
   rw[if_pos hw]
   exact zel next h4
  ·rename_i hw
   rw[if_neg hw]
   exact⟨h4.1,next _ _ h4.2⟩
def zuF (E:Env) (P:Program) (N:Nat) (M:ι->Md) (rg:Bool) (c:Code) (fr:Fr) (h:H) (pd:Pd) (k:KY):Prop:=
 ∃ ae fr' h' fa' pd',k ae fr' h' fa' pd'=0/\FaOk E fa'/\∀ i r n ρ w a QQ,(rg=true->r=none)->Sat E ρ h w->zw E ρ h.n.toNat fr (a:Act).tmps->N<=a.tmps.size->(M i).J pd a.defers ρ h w ->
  (∀ a' w',AtY E N (M i) ρ h w fr' h' pd' a' w'->QQ (AE.exit' ae) a' w')->c.wpIn (Fd r) n P QQ a w
theorem zfX {c:YX} {fr:Fr} {h:H} {fa:Fa} {pd:Pd} {k:KY} (hk:y8 .bad c fr h fa pd k=0):False:=absurd (show (1:Nat)=0 from hk) (by simp)
theorem jc {Y:Ty} (hY:TyOk P Y) (hm:P.follows .mixedOrders=true) {dr:Nat->Option Dr} {c:YX} (hcall:zi E P c.call) (hM:∀ i,MdOk E (M i)) (hh:zcP E P M c.yid c.hand) (hsub:SubA E P M c.yid c.hand c.sub) {rg sc:Bool} (hsc:sc=true->rg=true)
  (hrng:∀ g ps x y fr h fa pd k,FaOk E fa->y8 (z4 Y N dr (.rangeFunc g ps x y) sc) c fr h fa pd k=0->zuF E P N M rg (.rangeFunc g ps x y) fr h pd k) :
  ∀ (cd:Code) (fr:Fr) (h:H) (fa:Fa) (pd:Pd) (k:KY),FaOk E fa->y8 (z4 Y N dr cd sc) c fr h fa pd k=0->zuF E P N M rg cd fr h pd k
 | .skip,fr,h,fa,pd,k,hfa,hk=>⟨.normal,fr,h,fa,pd,hk,hfa,fun i r n ρ w a QQ hr hs hf hN hJ hQ=>wpIn_skip (hQ _ _ ⟨ρ,hf,hN,hs,hJ,Ext.refl ρ h _ (fun p o hp=>(hs.bd p o hp).1)⟩)⟩
 | .ret,fr,h,fa,pd,k,hfa,hk=>⟨.ret,fr,h,fa,pd,hk,hfa,fun i r n ρ w a QQ hr hs hf hN hJ hQ=>wpIn_ret (hQ _ _ ⟨ρ,hf,hN,hs,hJ,Ext.refl ρ h _ (fun p o hp=>(hs.bd p o hp).1)⟩)⟩
 | .exit j,fr,h,fa,pd,k,hfa,hk=>⟨.exit j,fr,h,fa,pd,hk,hfa,fun i r n ρ w a QQ hr hs hf hN hJ hQ=>wpIn_exit (hQ _ _ ⟨ρ,hf,hN,hs,hJ,Ext.refl ρ h _ (fun p o hp=>(hs.bd p o hp).1)⟩)⟩
 | .seq x y,fr,h,fa,pd,k,hfa,hk=>by
  have hk:y8 (z4 Y N dr x sc) c fr h fa pd (fun e fr h fa pd=>je e (y8 (z4 Y N dr y sc) c fr h fa pd k) (k .ret fr h fa pd) (fun i=>k (.exit i) fr h fa pd))=0:=hk
  obtain⟨ae,fr1,h1,fa1,pd1,hk1,hfa1,r1⟩:=jc hY hm hcall hM hh hsub hsc hrng x fr h fa pd _ hfa hk
  cases ae with
  | normal=>
   obtain⟨ae,fr2,h2,fa2,pd2,hk2,hfa2,r2⟩:=jc hY hm hcall hM hh hsub hsc hrng y fr1 h1 fa1 pd1 k hfa1 hk1
   refine⟨ae,fr2,h2,fa2,pd2,hk2,hfa2,fun i r n ρ w a QQ hr hs hf hN hJ hQ=>wpIn_seq (r1 i r n ρ w a _ hr hs hf hN hJ ?_)⟩
   rintro a1 w1 ⟨ρ1,f1,n1,s1,j1,x1⟩
   exact r2 i r n ρ1 w1 a1 QQ hr s1 f1 n1 j1 fun a' w' hA=>hQ a' w' (hA.trans x1)
  | ret=>exact⟨.ret,fr1,h1,fa1,pd1,hk1,hfa1,fun i r n ρ w a QQ hr hs hf hN hJ hQ=>wpIn_seq (r1 i r n ρ w a _ hr hs hf hN hJ hQ)⟩
  | exit j=>exact⟨.exit j,fr1,h1,fa1,pd1,hk1,hfa1,fun i r n ρ w a QQ hr hs hf hN hJ hQ=>wpIn_seq (r1 i r n ρ w a _ hr hs hf hN hJ hQ)⟩
 | .cond o x y,fr,h,fa,pd,k,hfa,hk=>by
  cases o with
  | tmp t=>
   have hk:way fa (fr.get (zp t)) (fun b fa=>bc b (y8 (z4 Y N dr x sc) c fr h fa pd k) (y8 (z4 Y N dr y sc) c fr h fa pd k)) 1=0:=hk
   obtain⟨v,b,fa',hv,hb,hfa',hk⟩:=zcR hk (by simp) hfa (fun _=>⟨0,0⟩)
   have hev:∀ ρ n (a:Act),zw E ρ n fr a.tmps->a.eval (.tmp t)=.bool b:=by
    intro ρ n a hf
    have h1:=(hf t v hv).1
    have h2:v.γ E ρ=.bool b:=by cases v <;> simp[V.γ]at hb ⊢ <;> exact hb
    simp[Act.eval,h1,h2]
   cases b with
   | true=>
    obtain⟨ae,fr1,h1,fa1,pd1,hk1,hfa1,r1⟩:=jc hY hm hcall hM hh hsub hsc hrng x fr h fa' pd k hfa' hk
    exact⟨ae,fr1,h1,fa1,pd1,hk1,hfa1,fun i r n ρ w a QQ hr hs hf hN hJ hQ=>wpIn_cond_true (hev ρ _ a hf) (r1 i r n ρ w a QQ hr hs hf hN hJ hQ)⟩
   | false=>
    obtain⟨ae,fr1,h1,fa1,pd1,hk1,hfa1,r1⟩:=jc hY hm hcall hM hh hsub hsc hrng y fr h fa' pd k hfa' hk
    exact⟨ae,fr1,h1,fa1,pd1,hk1,hfa1,fun i r n ρ w a QQ hr hs hf hN hJ hQ=>wpIn_cond_false (hev ρ _ a hf) (r1 i r n ρ w a QQ hr hs hf hN hJ hQ)⟩
  | _=>exact(zfX hk).elim
 | .block j x,fr,h,fa,pd,k,hfa,hk=>by
  have hk:y8 (z4 Y N dr x sc) c fr h fa pd (fun e fr h fa pd=>je e (k .normal fr h fa pd) (k .ret fr h fa pd) (fun i=>bc (Nat.beq i j) (k .normal fr h fa pd) (k (.exit i) fr h fa pd)))=0:=hk
  obtain⟨ae,fr1,h1,fa1,pd1,hk1,hfa1,r1⟩:=jc hY hm hcall hM hh hsub hsc hrng x fr h fa pd _ hfa hk
  cases ae with
  | normal=>exact⟨.normal,fr1,h1,fa1,pd1,hk1,hfa1,fun i r n ρ w a QQ hr hs hf hN hJ hQ=>wpIn_block (r1 i r n ρ w a _ hr hs hf hN hJ hQ)⟩
  | ret=>exact⟨.ret,fr1,h1,fa1,pd1,hk1,hfa1,fun i r n ρ w a QQ hr hs hf hN hJ hQ=>wpIn_block (r1 i r n ρ w a _ hr hs hf hN hJ hQ)⟩
  | exit m=>
   have hk2:bc (Nat.beq m j) (k .normal fr1 h1 fa1 pd1) (k (.exit m) fr1 h1 fa1 pd1)=0:=hk1
   clear hk1
   cases hj:Nat.beq m j with
   | true=>
    rw[hj]at hk2
    have hj:m=j:=by simpa using hj
    subst hj
    refine⟨.normal,fr1,h1,fa1,pd1,hk2,hfa1,fun i r n ρ w a QQ hr hs hf hN hJ hQ=>wpIn_block (r1 i r n ρ w a _ hr hs hf hN hJ fun a' w' hA=>?_)⟩
    show Exit.inBlock m _ (.exit m) a' w'
    simp only[Exit.inBlock,if_true]
    exact hQ a' w' hA
   | false=>
    rw[hj]at hk2
    have hj:¬ m=j:=by
     intro e;subst e;simp at hj
    refine⟨.exit m,fr1,h1,fa1,pd1,hk2,hfa1,fun i r n ρ w a QQ hr hs hf hN hJ hQ=>wpIn_block (r1 i r n ρ w a _ hr hs hf hN hJ fun a' w' hA=>?_)⟩
    show Exit.inBlock j _ (.exit m) a' w'
    simp only[Exit.inBlock,hj,if_false]
    exact hQ a' w' hA
 | .loop x,fr,h,fa,pd,k,hfa,hk=>by
  obtain⟨lp,hlp⟩:∃ lp:Nat->Fr->H->Fa->Pd->KY->Nat,lp=fun m=>Nat.rec (motive:=fun _=>Fr->H->Fa->Pd->KY->Nat) (fun _ _ _ _ _=>1)
   (fun _ ih fr h fa pd k=>y8 (z4 Y N dr x sc) c fr h fa pd (fun e fr h fa pd=>je e (ih fr h fa pd k) (k .ret fr h fa pd) (fun i=>k (.exit i) fr h fa pd))) m:=⟨_,rfl⟩
  have key:∀ m fr h fa pd,FaOk E fa->lp m fr h fa pd k=0->∃ ae fr' h' fa' pd',k ae fr' h' fa' pd'=0/\FaOk E fa'/\∀ i r n ρ w a QQ,(rg=true->r=none)->Sat E ρ h w->zw E ρ h.n.toNat fr (a:Act).tmps->N<=a.tmps.size ->
    (M i).J pd a.defers ρ h w->(∀ a' w',AtY E N (M i) ρ h w fr' h' pd' a' w'->QQ (AE.exit' ae) a' w')->Code.roundsIn (Fd r) n P x QQ m a w:=by
   intro m
   induction m with
   | zero=>intro fr h fa pd hfa hk;subst hlp;exact absurd (show (1:Nat)=0 from hk) (by simp)
   | succ m ih=>
    intro fr h fa pd hfa hk
    have hk:y8 (z4 Y N dr x sc) c fr h fa pd (fun e fr h fa pd=>je e (lp m fr h fa pd k) (k .ret fr h fa pd) (fun i=>k (.exit i) fr h fa pd))=0:=by subst hlp;exact hk
    obtain⟨ae,fr1,h1,fa1,pd1,hk1,hfa1,r1⟩:=jc hY hm hcall hM hh hsub hsc hrng x fr h fa pd _ hfa hk
    cases ae with
    | normal=>
     obtain⟨ae,fr2,h2,fa2,pd2,hk2,hfa2,r2⟩:=ih fr1 h1 fa1 pd1 hfa1 hk1
     refine⟨ae,fr2,h2,fa2,pd2,hk2,hfa2,fun i r n ρ w a QQ hr hs hf hN hJ hQ=>?_⟩
     rw[roundsIn_succ]
     refine r1 i r n ρ w a _ hr hs hf hN hJ ?_
     rintro a1 w1 ⟨ρ1,f1,n1,s1,j1,x1⟩
     exact r2 i r n ρ1 w1 a1 QQ hr s1 f1 n1 j1 fun a' w' hA=>hQ a' w' (hA.trans x1)
    | ret=>exact⟨.ret,fr1,h1,fa1,pd1,hk1,hfa1,fun i r n ρ w a QQ hr hs hf hN hJ hQ=>(by rw[roundsIn_succ];exact r1 i r n ρ w a _ hr hs hf hN hJ hQ)⟩
    | exit j=>exact⟨.exit j,fr1,h1,fa1,pd1,hk1,hfa1,fun i r n ρ w a QQ hr hs hf hN hJ hQ=>(by rw[roundsIn_succ];exact r1 i r n ρ w a _ hr hs hf hN hJ hQ)⟩
  obtain⟨ae,fr2,h2,fa2,pd2,hk2,hfa2,r2⟩:=key c.fuel fr h fa pd hfa (by subst hlp;exact hk)
  exact⟨ae,fr2,h2,fa2,pd2,hk2,hfa2,fun i r n ρ w a QQ hr hs hf hN hJ hQ=>wpIn_loop_rounds _ (r2 i r n ρ w a QQ hr hs hf hN hJ hQ)⟩
 | .region id ops false,fr,h,fa,pd,k,hfa,hk=>by
  simp only[z4]at hk
  split at hk
  ·rename_i l hl
   obtain⟨fr2,h2',fa2,pd2,hk2,hfa2,ho⟩:=zfv hY hcall hM hh hsub _ _ fr h fa pd hl hfa (show opsY l c fr h fa pd (fun fr h fa pd=>k .normal fr h fa pd)=0 from hk)
   exact⟨.normal,fr2,h2',fa2,pd2,hk2,hfa2,fun i r n ρ w a QQ hr hs hf hN hJ hQ=>wpIn_region_list (ho i r n ρ w a QQ hs hf hN hJ hQ)⟩
  ·exact(zfX hk).elim
 | .rangeFunc f ps x y,fr,h,fa,pd,k,hfa,hk=>hrng f ps x y fr h fa pd k hfa hk
 | .region id ops true,fr,h,fa,pd,k,hfa,hk=>by
  have hk:y8 (bc sc (zur Y N dr id ops) .bad) c fr h fa pd k=0:=hk
  cases hs0:sc with
  | false=>rw[hs0]at hk;exact(zfX hk).elim
  | true=>
   have hk:y8 (zur Y N dr id ops) c fr h fa pd k=0:=by rw[hs0]at hk;exact hk
   have hrg:=hsc hs0
   cases hB:zH dr (.region id ops true) with
   | false=>
    unfold zur at hk
    rw[hB]at hk;exact(zfX hk).elim
   | true=>
    have det:y8 (.det (yo Y N dr (.region id ops true))) c fr h fa pd k=0->zuF E P N M rg (.region id ops true) fr h pd k:=fun hk=>by
     obtain⟨ae,fr1,h1,fa1,hk1,hfa1,r1⟩:=yF hY hm (g:=c.x) hcall (.region id ops true) fr h fa (fun e fr h fa=>k e fr h fa pd) hB hfa hk
     refine⟨ae,fr1,h1,fa1,pd,hk1,hfa1,fun i r n ρ w a QQ hr hs hf hN hJ hQ=>?_⟩
     have hr0:=hr hrg
     subst hr0
     exact(wpIn_wide (n:=n)).2 (r1 (DS:=a.defers) ρ w a QQ hs hf hN rfl fun a' w' hA=>hQ a' w' (AtY.of_at (hM i) hs hJ hA))
    unfold zur at hk
    rw[hB]at hk
    have hk:y8 (match dr id with
 | some (.tail m tl)=>match zY Y N ops.toList (ops.toList.take m),zbT Y N ops.toList (EvQ.pick ops tl) with
  | some hd,some t=>bc (EvQ.lexTailP .any ops m tl && zwK t) (.qops hd t) (.det (yo Y N dr (.region id ops true)))
  | _,_=>.det (yo Y N dr (.region id ops true))
 | _=>.det (yo Y N dr (.region id ops true))) c fr h fa pd k=0:=hk
    split at hk
    rotate_left
    ·exact det hk
    rename_i m tl hdr
    split at hk
    rotate_left
    ·exact det hk
    rename_i hd t h1 h2
    cases hl:(EvQ.lexTailP .any ops m tl && zwK t) with
    | false=>rw[hl]at hk;exact det hk
    | true=>
     rw[hl]at hk
     have hlex:EvQ.lexTailP .any ops m tl=true:=by
      rw[Bool.and_eq_true]at hl;exact hl.1
     have hk:zdp hd c.x fr h fa (fun fr h fa=>opsY t c fr h fa pd (fun fr h fa pd=>k .normal fr h fa pd))=0:=hk
     obtain⟨fr1,fa1,hk1,hfa1,hq⟩:=zaU hY hcall _ _ fr fa h1 hfa hk
     obtain⟨fr2,h2',fa2,pd2,hk2,hfa2,ho⟩:=zfv (M:=M) hY hcall hM hh hsub _ _ fr1 h fa1 pd h2 hfa1 hk1
     refine⟨.normal,fr2,h2',fa2,pd2,hk2,hfa2,fun i r n ρ w a QQ hr hs hf hN hJ hQ=>?_⟩
     have hr0:=hr hrg
     subst hr0
     have hs1:=zdl hs
     have hC1:Cls E ρ h w.drew { w with drawn:=w.drawn+1 }:=⟨hs1,hs1.refl E⟩
     refine zc9 m tl hm hlex hC1 ?_
     refine hq (DS:=a.defers) ρ w.drew a _ hs1 hf hN rfl fun a' f' n' d' w' hw'=>?_
     obtain⟨j1,x1⟩:=(hM i).step hs hw'.1 ((jG hs).trans hw'.2) hJ
     exact ho i none n ρ w' a' QQ hw'.1 f' n' (by rw[d'];exact j1) fun a2 w2 hA=>hQ a2 w2 (hA.trans x1)
 | .scope x,fr,h,fa,pd,k,hfa,hk=>by
  have hk:y8 (bc sc (z4 Y N dr x sc) .bad) c fr h fa pd k=0:=hk
  cases hs0:sc with
  | false=>rw[hs0]at hk;exact(zfX hk).elim
  | true=>
   have hk:y8 (z4 Y N dr x sc) c fr h fa pd k=0:=by rw[hs0]at hk ⊢;exact hk
   obtain⟨ae,fr1,h1,fa1,pd1,hk1,hfa1,r1⟩:=jc hY hm hcall hM hh hsub hsc hrng x fr h fa pd k hfa hk
   refine⟨ae,fr1,h1,fa1,pd1,hk1,hfa1,fun i r n ρ w a QQ hr hs hf hN hJ hQ=>?_⟩
   have hr0:=hr (hsc hs0)
   subst hr0
   exact(wpIn_wide (n:=n)).2 (wp_scope_straight ((wpIn_wide (n:=n)).1 (r1 i none n ρ w a _ hr hs hf hN hJ (by cases ae <;> exact hQ))))
 | .label l,fr,h,fa,pd,k,hfa,hk=>⟨.normal,fr,h,fa,pd,hk,hfa,fun i r n ρ w a QQ hr hs hf hN hJ hQ=>wpIn_label (hQ _ _ ⟨ρ,hf,hN,hs,hJ,Ext.refl ρ h _ (fun p o hp=>(hs.bd p o hp).1)⟩)⟩
 | .goto l,fr,h,fa,pd,k,hfa,hk=>(zfX hk).elim
 | .refuse s,fr,h,fa,pd,k,hfa,hk=>(zfX hk).elim
theorem nilL_ok {α:Type} {l:List α} (h:nilL l=true):l=[]:=by cases l with
 | nil=>rfl
 | cons a r=>cases h
theorem zcx {Y:Ty} {dr:Nat->Option Dr} {c:YX} (hc:c.itr=zdx) {rg sc:Bool}:∀ g ps x y fr h fa pd k,FaOk E fa->y8 (z4 Y N dr (.rangeFunc g ps x y) sc) c fr h fa pd k=0->zuF E P N M rg (.rangeFunc g ps x y) fr h pd k:=by
 intro g ps x y fr h fa pd k hfa hk
 exfalso
 simp only[z4]at hk
 split at hk
 ·split at hk
  ·rename_i g' _ _
   have hk:vFn (od g' fr) _ 1=0:=hk
   generalize od g' fr=q at hk
   unfold vFn at hk
   split at hk
   ·obtain⟨_,hk⟩:=zn hk (by simp)
    rw[hc]at hk
    exact absurd (show (1:Nat)=0 from hk) (by simp)
   ·cases hk
  ·exact zfX hk
 ·exact zfX hk
end Go.Ev
end
set_option linter.unusedSimpArgs false
set_option linter.unusedVariables false
noncomputable section
namespace Go.Ev
open Go
variable {E:Env} {P:Program} {N:Nat}
def Unb (b:Nat) (ρ:Rho) (h:H):Prop:=∀ p o,h.t.get p=some o->o.live=true->(ρ p).b≠b
theorem jN {b:Nat} {ρ ρ':Rho} {h h':H} {w w':World} (x:Ext ρ h w ρ' h' w') (hu:Unb b ρ h) (hb:b<w.heap.size):Unb b ρ' h'/\w'.heap[b]? = w.heap[b]?:=by
 refine⟨fun p o hp hl=>?_,x.keep b hb fun p o hp hl _=>hu p o hp hl⟩
 by_cases hn:p.toNat<h.n.toNat
 ·obtain⟨o0,h0,l0⟩:=x.liv p o hn hp hl
  rw[x.agree p hn];exact hu p o0 h0 l0
 ·rcases x.new p o (by omega) hp hl with h1 | ⟨q,o',h1,h2,_,h3⟩
  ·omega
  ·rw[<- h3];exact hu q o' h1 h2
theorem zeL {b:Nat} {X:Obj} {ρ:Rho} {h:H} {w:World} (s:Sat E ρ h w) (hu:Unb b ρ h):Sat E ρ h (w.putObj b X):=
 ⟨fun p o hp=>O.Is_heap E (fun hl=>World.putObj_heap_other (hu p o hp hl)) (s.obj p o hp),s.inj,s.bd⟩
theorem zdG {b:Nat} {X:Obj} {ρ ρ':Rho} {h h':H} {w w':World} (x:Ext ρ h w ρ' h' w') (hb:b<w.heap.size):Ext ρ h (w.putObj b X) ρ' h' (w'.putObj b X):=by
 refine⟨x.len,x.lo,x.agree,fun p o h1 h2 h3=>by rw[World.putObj_size];exact x.new p o h1 h2 h3,x.os,x.tape,x.output,by rw[World.putObj_size,World.putObj_size];exact x.size,fun c hc hno=>?_,x.old,x.liv⟩
 rw[World.putObj_size]at hc
 by_cases e:c=b
 ·subst e
  rw[World.putObj_heap_same hc,World.putObj_heap_same (Nat.lt_of_lt_of_le hc x.size)]
 ·rw[World.putObj_heap_other e,World.putObj_heap_other e]
  exact x.keep c hc hno
theorem zfo {b:Nat} {X Y:Obj} {w:World}:(w.putObj b X).putObj b Y=w.putObj b Y:=by
 unfold World.putObj
 congr 1
 apply Array.ext_getElem?
 intro i
 simp only[Array.getElem?_setIfInBounds]
 by_cases e:b=i
 ·simp[e]
 ·simp[e]
theorem zgi {ρ:Rho} {h:H} {w:World} (s:Sat E ρ h w) (o:Obj):Sat E ρ h (w.alloc o):=
 ⟨fun p x hp=>O.Is_heap E (fun hl=>by
  have hlt:(ρ p).b<w.heap.size:=O.Is_lt E (s.obj p x hp) hl
  show (w.heap.push o)[(ρ p).b]? = w.heap[(ρ p).b]?
  rw[Array.getElem?_push,if_neg (by omega)]) (s.obj p x hp),s.inj,s.bd⟩
theorem zvV {ρ:Rho} {h:H} {w:World} (s:Sat E ρ h w) {b:Nat} (hb:w.heap.size<=b):Unb b ρ h:=fun p o hp hl=>by
 have:(ρ p).b<w.heap.size:=O.Is_lt E (s.obj p o hp) hl
 omega
def zlN:Md:=⟨fun w=>w,fun _ ds _ _ _=>ds=[]⟩
theorem zft:MdOk E zlN:=⟨fun _ _ x hj=>⟨hj,x⟩⟩
def zlU (b:Nat):Deferred:={ target:=.collected b,args:=#[] }
def zmf (B:Nat):Md:=⟨fun w=>w,fun _ ds ρ h w=>B<=w.heap.size/\∃ bs:List Nat,ds=bs.map zlU/\bs.Nodup/\∀ b∈bs,B<=b/\w.heap[b]? = some (.deferred (some []))/\Unb b ρ h⟩
theorem zye (B:Nat):MdOk E (zmf B):=⟨fun s s' x hj=>⟨by
 obtain⟨h1,bs,h2,h3,h4⟩:=hj
 refine⟨Nat.le_trans h1 x.size,bs,h2,h3,fun b hb=>?_⟩
 obtain⟨g1,g2,g3⟩:=h4 b hb
 obtain⟨h6,h7⟩:=jN x g3 (Array.getElem?_eq_some_iff.1 g2).1
 exact⟨g1,h7.trans g2,h6⟩,x⟩⟩
structure LS where
 fr:Fr
 ps:Array Tmp
 as:Code
 bd:Code
 N:Nat
structure LI where
 b:Nat
 D:Nat
 T:Array Value
 fn:FuncId
def pdCode:AE->Code
 | .normal=>.skip
 | .ret=>.ret
 | .exit i=>.exit i
def zwg (s:LS) (i:LI) (st:LoopState) (pe:Option Code):Loop:={ state:=st,pending:=pe,fn:=i.fn,tmps:=i.T,params:=s.ps,assign:=s.as,body:=s.bd,defers:=i.D }
def zaG (s:LS) (i:LI):Pd->Loop
 | none=>zwg s i .ready none
 | some e=>zwg s i .done (some (pdCode e))
def zW (E:Env) (s:LS) (yid:Ev.P) (i:LI):Md:=⟨fun w=>w.putObj i.b (.deferred none),fun pd ds ρ h w=>ds=[]/\w.heap[i.b]? = some (.loop (zaG s i pd))/\w.heap[i.D]? = some (.deferred (some []))/\i.D≠i.b /\
 Unb i.b ρ h/\Unb i.D ρ h/\zw E ρ h.n.toNat s.fr i.T/\s.N<=i.T.size/\(ρ yid).b=i.b/\yid.toNat<h.n.toNat⟩
theorem ziP (s:LS) (yid:Ev.P) (i:LI):MdOk E (zW E s yid i):=⟨fun hs hs' x hj=>by
 obtain⟨h1,h2,h3,h4,h5,h6,h7,h8,h9,h10⟩:=hj
 have hb:=(Array.getElem?_eq_some_iff.1 h2).1
 obtain⟨u1,k1⟩:=jN x h5 hb
 obtain⟨u2,k2⟩:=jN x h6 (Array.getElem?_eq_some_iff.1 h3).1
 exact⟨⟨h1,k1.trans h2,k2.trans h3,h4,u1,u2,h7.mono x.len x.agree,h8,by rw[x.agree _ h10];exact h9,Nat.lt_of_lt_of_le h10 x.len⟩,zdG x hb⟩⟩
theorem zi8:∀ (ps:List Nat) (l:List V) (fr:Fr) (k:Fr->Nat),zfV (ps.map zp) l fr k=0->∃ fr',k fr'=0/\ps.length=l.length /\
  ∀ (E:Env) ρ n (T:Array Value),(∀ p∈ps,p<T.size)->zw E ρ n fr T->bdL n l->zw E ρ n fr' ((ps.zip (γL E ρ l)).foldl (fun t (p:Nat × Value)=>t.setIfInBounds p.1 p.2) T)/\((ps.zip (γL E ρ l)).foldl (fun t (p:Nat × Value)=>t.setIfInBounds p.1 p.2) T).size=T.size
 | [],[],fr,k,hk=>⟨fr,hk,rfl,fun E ρ n T _ hf _=>⟨hf,rfl⟩⟩
 | [],v::vs,fr,k,hk=>absurd (show (1:Nat)=0 from hk) (by simp)
 | p::ps,[],fr,k,hk=>absurd (show (1:Nat)=0 from hk) (by simp)
 | p::ps,v::vs,fr,k,hk=>by
  have hk:zb7 (zp p) fr v (fun fr=>zfV (ps.map zp) vs fr k)=0:=hk
  obtain⟨fr1,hk,g1,g2⟩:=zbH hk
  obtain⟨fr',hk,hl,hr⟩:=zi8 ps vs fr1 k hk
  refine⟨fr',hk,by simp[hl],fun E ρ n T hp hf hb=>?_⟩
  have h1:=hr E ρ n (T.setIfInBounds p (v.γ E ρ)) (fun q hq=>by simpa using hp q (List.mem_cons_of_mem _ hq)) (hf.set (hp p List.mem_cons_self) hb.1 g1 g2) hb.2
  simp only[γL,List.zip_cons_cons,List.foldl_cons]
  exact⟨h1.1,by rw[h1.2];simp⟩
def pdOf:AE->Pd
 | .normal=>none
 | .ret=>some .ret
 | .exit i=>some (.exit i)
def bOf:AE->Bool
 | .normal=>true
 | _=>false
theorem zzz {Y:Ty} (hY:TyOk P Y) (hm:P.follows .mixedOrders=true) {dr:Nat->Option Dr} {yid:Ev.P} {c:YX} (hcall:zi E P c.call) {fr:Fr} {ps:Array Tmp} {as bd:Code} (hps:∀ p∈ps.toList,p<N) :
  zcP E P (zW E ⟨fr,ps,as,bd,N⟩ yid) yid (zlH c fr (ps.toList.map zp) (y8 (z4 Y N dr as false)) (y8 (z4 Y N dr bd false))):=by
 intro l h fa k hk hfa
 obtain⟨fr0,hk,hlen,hbind⟩:=zi8 _ _ _ _ (show zfV (ps.toList.map zp) l fr _=0 from hk)
 obtain⟨ae,fr1,h1,fa1,pd1,hk,hfa1,r1⟩:=jc (P:=P) (M:=fun _:Unit=>zlN) (rg:=false) hY hm (dr:=dr) (c:=⟨c.call,c.F,c.fuel,zcX,.h,zdx,zcb⟩) hcall (fun _=>zft) zd0 za1 (sc:=false) (by simp) (zcx rfl) as fr0 h fa none _ hfa hk
 obtain⟨hp,hk⟩:=zmi (show bc (zfH pd1) 1 _=0 from hk) (by simp)
 have hp:=zc1 hp
 subst hp
 cases ae with
 | ret=>exact absurd (show (1:Nat)=0 from hk) (by simp)
 | exit j=>exact absurd (show (1:Nat)=0 from hk) (by simp)
 | normal=>
 obtain⟨ae,fr2,h2,fa2,pd2,hk,hfa2,r2⟩:=jc (P:=P) (M:=fun _:Unit=>zlN) (rg:=false) hY hm (dr:=dr) (c:=⟨c.call,c.F,c.fuel,zcX,.h,zdx,zcb⟩) hcall (fun _=>zft) zd0 za1 (sc:=false) (by simp) (zcx rfl) bd fr1 h1 fa1 none _ hfa1 hk
 obtain⟨hp,hk⟩:=zmi (show bc (zfH pd2) 1 _=0 from hk) (by simp)
 have hk:k (bOf ae) h2 fa2 (pdOf ae)=0:=by cases ae <;> exact hk
 refine⟨_,_,_,_,hk,hfa2,fun i n ρ w ds hb hs hJ=>?_⟩
 obtain⟨hds,hrec,hD,hne,hu1,hu2,hf,hN,hyb,hyn⟩:=hJ
 rw[hyb]
 have hlt:=(Array.getElem?_eq_some_iff.1 hrec).1
 obtain⟨hf0,hsz0⟩:=hbind E ρ h.n.toNat i.T (fun p hp=>Nat.lt_of_lt_of_le (hps p hp) hN) hf hb
 have hsize:(γL E ρ l).toArray.size=(zaG ⟨fr,ps,as,bd,N⟩ i none).params.size:=by
  show (γL E ρ l).toArray.size=ps.size
  rw[List.size_toArray,γL_length,<- hlen];simp
 refine⟨i.fn,_,as,bd,run_yield hrec hsize,roundIn_of_wpIn trivial ?_⟩
 have htm:((zaG ⟨fr,ps,as,bd,N⟩ i none).params.zip (γL E ρ l).toArray).foldl (fun tmps (x:Nat × Value)=>tmps.setIfInBounds x.1 x.2) (zaG ⟨fr,ps,as,bd,N⟩ i none).tmps=(ps.toList.zip (γL E ρ l)).foldl (fun t (p:Nat × Value)=>t.setIfInBounds p.1 p.2) i.T:=by
  show (ps.zip (γL E ρ l).toArray).foldl (fun tmps (x:Nat × Value)=>tmps.setIfInBounds x.1 x.2) i.T=_
  rw[<- Array.foldl_toList,Array.toList_zip]
 rw[show (((zaG ⟨fr,ps,as,bd,N⟩ i none).params.zip (γL E ρ l).toArray).foldl (fun tmps x=>match x with | (t,a)=>tmps.setIfInBounds t a) (zaG ⟨fr,ps,as,bd,N⟩ i none).tmps)=_ from htm]
 refine r1 () (some i.b) n ρ w ⟨_,[]⟩ _ (by simp) hs hf0 (by show N<=_;rw[hsz0];exact hN) rfl ?_
 rintro a1 w1 ⟨ρ1,f1,n1,s1,d1,x1⟩
 have x1:Ext ρ h w ρ1 h1 w1:=x1
 obtain⟨u1,k1⟩:=jN x1 hu1 hlt
 obtain⟨u2,k2⟩:=jN x1 hu2 (Array.getElem?_eq_some_iff.1 hD).1
 have hlt1:i.b<w1.heap.size:=Nat.lt_of_lt_of_le hlt x1.size
 refine⟨_,run_beginRound (k1.trans hrec) rfl,?_⟩
 refine r2 () (some i.b) n ρ1 _ a1 _ (by simp) (zeL s1 u1) f1 n1 d1 ?_
 rintro a2 w3 ⟨ρ2,f2,n2,s2,d2,x2⟩
 have x2:Ext ρ1 h1 (w1.putObj i.b (.loop { zaG ⟨fr,ps,as,bd,N⟩ i none with state:=.busy })) ρ2 h2 w3:=x2
 have hlt2:i.b<(w1.putObj i.b (.loop { zaG ⟨fr,ps,as,bd,N⟩ i none with state:=.busy })).heap.size:=by rw[World.putObj_size];exact hlt1
 obtain⟨u3,k3⟩:=jN x2 u1 hlt2
 have hD1:(w1.putObj i.b (.loop { zaG ⟨fr,ps,as,bd,N⟩ i none with state:=.busy })).heap[i.D]? = some (.deferred (some [])):=(World.putObj_heap_other hne).trans (k2.trans hD)
 obtain⟨u4,k4⟩:=jN x2 u2 (Array.getElem?_eq_some_iff.1 hD1).1
 have hlt3:i.b<w3.heap.size:=Nat.lt_of_lt_of_le hlt2 x2.size
 have hbusy:w3.heap[i.b]? = some (.loop { zaG ⟨fr,ps,as,bd,N⟩ i none with state:=.busy }):=k3.trans (World.putObj_heap_same hlt1)
 have ext:∀ X,Ext ρ h (w.putObj i.b (.deferred none)) ρ2 h2 ((w3.putObj i.b X).putObj i.b (.deferred none)):=fun X=>by
  rw[zfo]
  refine(zdG x1 hlt).trans ?_
  have:=zdG (X:=.deferred none) x2 hlt2
  rw[zfo]at this
  exact this
 have fin:∀ (jump:Option Code) (pd:Pd),zaG ⟨fr,ps,as,bd,N⟩ i pd=zwg ⟨fr,ps,as,bd,N⟩ i (if jump.isNone then .ready else .done) jump ->
   ∃ v w',(Instr.endRound i.b jump).run P w3=.ok v w'/\v=.bool jump.isNone/\∃ ρ',Sat E ρ' h2 w'/\(zW E ⟨fr,ps,as,bd,N⟩ yid i).J pd ds ρ' h2 w'/\Ext ρ h ((zW E ⟨fr,ps,as,bd,N⟩ yid i).m w) ρ' h2 ((zW E ⟨fr,ps,as,bd,N⟩ yid i).m w'):=by
  intro jump pd hpd
  refine⟨_,_,run_endRound jump hbusy,rfl,ρ2,zeL s2 u3,⟨hds,?_,?_,hne,u3,u4,(hf.mono x1.len x1.agree).mono x2.len x2.agree,hN,by rw[x2.agree _ (Nat.lt_of_lt_of_le hyn x1.len),x1.agree _ hyn];exact hyb,Nat.lt_of_lt_of_le (Nat.lt_of_lt_of_le hyn x1.len) x2.len⟩,ext _⟩
  ·rw[World.putObj_heap_same hlt3,hpd];rfl
  ·rw[World.putObj_heap_other hne];exact k4.trans hD1
 cases ae with
 | normal=>obtain⟨v,w',e1,e2,e3⟩:=fin none none rfl;exact⟨v,w',e1,by rw[e2];rfl,e3⟩
 | ret=>obtain⟨v,w',e1,e2,e3⟩:=fin (some .ret) (some .ret) rfl;exact⟨v,w',e1,by rw[e2];rfl,e3⟩
 | exit j=>obtain⟨v,w',e1,e2,e3⟩:=fin (some (.exit j)) (some (.exit j)) rfl;exact⟨v,w',e1,by rw[e2];rfl,e3⟩
def zw3 (E:Env) (P:Program) (itr:Nat->Option zdM):Prop:=∀ G it,itr G=some it->yl P G/\∀ (s:LS) hand yid l h fa k,zcP E P (zW E s yid) yid hand->it hand yid l h fa k=0->FaOk E fa ->
 ∃ h' fa' pd',k h' fa' pd'=0/\FaOk E fa'/\∀ (i:LI) ρ w,bdL h.n.toNat l->Sat E ρ h w->(zW E s yid i).J none [] ρ h w->Calls P G (#[yvOf i.b] ++ (γL E ρ l).toArray) w fun e w'=>
  (∃ v,e=.returned v)/\∃ ρ',Sat E ρ' h' w'/\(zW E s yid i).J pd' [] ρ' h' w'/\Ext ρ h ((zW E s yid i).m w) ρ' h' ((zW E s yid i).m w')
theorem zxN {e:AE} {r:Option Nat} {n:Nat} {Q:Exit->Act->World->Prop} {a:Act} {w:World} (h:Q (AE.exit' e) a w):(pdCode e).wpIn (Fd r) n P Q a w:=by
 cases e with
 | normal=>exact wpIn_skip h
 | ret=>exact wpIn_ret h
 | exit i=>exact wpIn_exit h
theorem rng_run {Y:Ty} (hY:TyOk P Y) (hm:P.follows .mixedOrders=true) {dr:Nat->Option Dr} {sc:Bool} {c:YX} (hcall:zi E P c.call) (hitr:zw3 E P c.itr):∀ g ps x y fr h fa pd k,FaOk E fa->y8 (z4 Y N dr (.rangeFunc g ps x y) sc) c fr h fa pd k=0 ->
  zuF E P N zmf true (.rangeFunc g ps x y) fr h pd k:=by
 intro g ps x y fr h fa pd k hfa hk
 simp only[z4]at hk
 split at hk
 rotate_left
 ·exact(zfX hk).elim
 rename_i g' hg'
 split at hk
 rotate_left
 ·exact(zfX hk).elim
 rename_i hall
 have hps:∀ p∈ps.toList,p<N:=by
  have:∀ l:List Nat,yP (fun p=>Nat.blt p N) l=true->∀ p∈l,p<N:=by
   intro l
   induction l with
   | nil=>intro _ p hp;cases hp
   | cons a r ih=>
    intro hl p hp
    obtain⟨h1,h2⟩:Nat.blt a N=true/\yP (fun p=>Nat.blt p N) r=true:=by
     have hl:bc (Nat.blt a N) (yP (fun p=>Nat.blt p N) r) false=true:=hl
     rw[bc_eqB]at hl
     simpa using hl
    rcases List.mem_cons.1 hp with e | e
    ·subst e;simpa using h1
    ·exact ih h2 p e
  exact this _ hall
 have hk2:vFn (od g' fr) _ 1=0:=hk
 clear hk
 have hk:=hk2
 clear hk2
 generalize hod:od g' fr=q at hk
 unfold vFn at hk
 split at hk
 rotate_left
 ·cases hk
 rename_i G pre caps
 obtain⟨hpre,hk⟩:=zn hk (by simp)
 have hpre:=nilL_ok hpre
 subst hpre
 obtain⟨it,hit,hk⟩:=zA hk (by simp)
 rw[ji]at hk
 obtain⟨hca,hit⟩:=hitr G it hit
 obtain⟨h',fa',pd',hk,hfa',hrun⟩:=hit ⟨fr,ps,x,y,N⟩ _ h.n caps (h.add .dead) fa _ (zzz hY hm hcall hps) hk hfa
 have hk:k (match pd' with | none=>.normal | some e=>e) fr h' fa' (some .normal)=0:=by cases pd' <;> exact hk
 refine⟨_,_,_,_,_,hk,hfa',fun B r n ρ w a QQ hr hs hf hN hJ hQ=>?_⟩
 have hr:=hr rfl
 subst hr
 obtain⟨hB,bs,hds,hnd,hbs⟩:=hJ
 obtain⟨hge,hgb⟩:=zq hf hg' hod
 have hge:a.eval g=.func (.func G) #[] (γL E ρ caps).toArray:=by rw[hge];simp[V.γ,γL]
 refine wpIn_rangeFunc (F:=Fd none) fun fn _=>?_
 obtain⟨i,hi⟩:∃ i:LI,i=⟨w.heap.size+1,w.heap.size,a.tmps,fn⟩:=⟨_,rfl⟩
 obtain⟨W1,hW1⟩:∃ W1,(w.alloc (.deferred (some []))).alloc (.loop (zaG ⟨fr,ps,x,y,N⟩ i none))=W1:=⟨_,rfl⟩
 have hsz:W1.heap.size=w.heap.size+2:=by rw[<- hW1];simp
 have hold:∀ b,b<w.heap.size->W1.heap[b]? = w.heap[b]?:=fun b hb=>by
  rw[<- hW1]
  show ((w.heap.push _).push _)[b]? = _
  rw[Array.getElem?_push,if_neg (by simp;omega),Array.getElem?_push,if_neg (by omega)]
 have hL1:W1.heap[w.heap.size+1]? = some (.loop (zaG ⟨fr,ps,x,y,N⟩ i none)):=by
  rw[<- hW1];have:=World.alloc_heap_new (w.alloc (.deferred (some []))) (.loop (zaG ⟨fr,ps,x,y,N⟩ i none));rwa [World.size_alloc]at this
 have hK1:W1.heap[w.heap.size]? = some (.deferred (some [])):=by
  rw[<- hW1]
  show ((w.heap.push _).push _)[w.heap.size]? = _
  rw[Array.getElem?_push,if_neg (by simp)]
  simp
 have hs1:Sat E ρ h W1:=by rw[<- hW1];exact zgi (zgi hs _) _
 obtain⟨s0,x0⟩:=zaC E hs1 .dead trivial ⟨i.b,0⟩ (fun h=>by cases h) trivial (fun _ _=>rfl) (Nat.le_refl _) rfl rfl rfl
 have hadd:∀ b,Unb b ρ h->Unb b (jP ρ h.n ⟨i.b,0⟩) (h.add .dead):=fun b hb p o hp hl=>by
  simp only[H.add,get_set]at hp
  split at hp
  ·simp at hp;subst hp;cases hl
  ·rw[x0.agree p (hs.bd p o hp).1];exact hb p o hp hl
 have hj1:(zW E ⟨fr,ps,x,y,N⟩ h.n i).J none [] (jP ρ h.n ⟨i.b,0⟩) (h.add .dead) W1:=by
  refine⟨rfl,?_,?_,?_,hadd _ ?_,hadd _ ?_,?_,by subst hi;exact hN,by rw[yQ],by simp[H.add]⟩
  ·subst hi;exact hL1
  ·subst hi;exact hK1
  ·subst hi;simp
  ·subst hi;exact zvV hs (by simp)
  ·subst hi;exact zvV hs (by simp)
  ·have:=hf.mono x0.len x0.agree
   subst hi;exact this
 have hcaps:γL E (jP ρ h.n ⟨i.b,0⟩) caps=γL E ρ caps:=γL_agree E x0.agree caps hgb.2
 refine⟨w.heap.size+1,[zlU w.heap.size],W1,{ target:=.fn (.func G) (γL E ρ caps).toArray,args:=#[.func (.yield (w.heap.size+1)) #[] #[]] },W1,G,
  #[.func (.yield (w.heap.size+1)) #[] #[]] ++ (γL E ρ caps).toArray,W1,?_,?_,fun _ _=>trivial,?_,fun h=>by simp[Fd,Fence.wide]at h,?_⟩
 ·rw[<- hW1,hi];exact run_enterLoop_outer _ _ _ _ _
 ·simp only[resolve,hge]
  simp[go_sem]
 ·have:=hca (#[.func (.yield (w.heap.size+1)) #[] #[]] ++ (γL E ρ caps).toArray) W1
  simpa [invoke,go_sem] using this
 ·have hc:=hrun i _ W1 (yO x0.len caps hgb.2) s0 hj1
  rw[hcaps]at hc
  have hib:i.b=w.heap.size+1:=by rw[hi]
  rw[hib]at hc
  refine(zfR hc).mono ?_
  rintro e w3 ⟨⟨v,rfl⟩,ρ',s3,⟨_,hrec3,hD3,hne3,u3,u4,_,_⟩,x3⟩
  rw[hi]at hrec3 hD3 hne3 u3 u4 x3
  have hlt3:w.heap.size+1<w3.heap.size:=(Array.getElem?_eq_some_iff.1 hrec3).1
  have hend:=run_endLoop (P:=P) hrec3 (by cases pd' <;> simp[zaG,zwg])
  have x4:Ext ρ h (W1.putObj (w.heap.size+1) (.deferred none)) ρ' h' (w3.putObj (w.heap.size+1) (.deferred none)):=by
   have:=zdG (X:=.deferred none) x0 (b:=w.heap.size+1) (by rw[hsz];omega)
   rw[hi]at this
   exact this.trans x3
  have hat:AtY E N (zmf B) ρ h w fr h' (some .normal) { a with defers:=[zlU w.heap.size] ++ a.defers } (w3.putObj (w.heap.size+1) (.loop { zaG ⟨fr,ps,x,y,N⟩ ⟨w.heap.size+1,w.heap.size,a.tmps,fn⟩ pd' with state:=.exhausted })):=by
   have x5:Ext ρ h w ρ' h' (w3.putObj (w.heap.size+1) (.loop { zaG ⟨fr,ps,x,y,N⟩ ⟨w.heap.size+1,w.heap.size,a.tmps,fn⟩ pd' with state:=.exhausted })):=by
    have x3:=x4
    refine⟨x3.len,x3.lo,x3.agree,fun p o h1 h2 h3=>?_,?_,?_,?_,?_,fun b hb hno=>?_,x3.old,x3.liv⟩
    ·rcases x3.new p o h1 h2 h3 with h4 | h4
     ·rw[World.putObj_size,hsz]at h4
      exact .inl (by show w.heap.size<=_;omega)
     ·exact .inr h4
    ·exact x3.os.trans (by rw[<- hW1];rfl)
    ·exact x3.tape.trans (by rw[<- hW1];rfl)
    ·exact x3.output.trans (by rw[<- hW1];rfl)
    ·show w.heap.size<=(w3.putObj _ _).heap.size
     rw[World.putObj_size];omega
    ·have hb:b<w.heap.size:=hb
     have:=x3.keep b (by rw[World.putObj_size,hsz];omega) hno
     rw[World.putObj_heap_other (by omega),World.putObj_heap_other (by omega),hold b hb]at this
     show (w3.putObj _ _).heap[b]? = w.heap[b]?
     rw[World.putObj_heap_other (by omega)]
     exact this
   refine⟨ρ',hf.mono x4.len x4.agree,hN,zeL s3 u3,⟨Nat.le_trans hB x5.size,w.heap.size::bs,by rw[hds];rfl,?_,fun b hb=>?_⟩,x5⟩
   ·refine List.nodup_cons.2 ⟨fun hm=>?_,hnd⟩
    have:=(Array.getElem?_eq_some_iff.1 (hbs _ hm).2.1).1
    omega
   ·rcases List.mem_cons.1 hb with rfl | hb
    ·exact⟨hB,(World.putObj_heap_other hne3).trans hD3,u4⟩
    ·obtain⟨g1,g2,g3⟩:=hbs b hb
     obtain⟨h6,h7⟩:=jN x5 g3 (Array.getElem?_eq_some_iff.1 g2).1
     exact⟨g1,h7.trans g2,h6⟩
  refine⟨_,_,hend,?_⟩
  cases pd' with
  | none=>exact hQ _ _ hat
  | some e=>exact zxN (r:=none) (hQ _ _ hat)
end Go.Ev
end
set_option linter.unusedSimpArgs false
set_option linter.unusedVariables false
noncomputable section
namespace Go.Ev
open Go
variable {E:Env} {P:Program} {N:Nat}
theorem zl8 {ρ:Rho} {n:Nat} {fr:Fr} {l:List V} {m:Nat} (hfr:∀ t v,fr.get (zp t)=some v->l[t]? = some v) (hbd:bdL n l):zw E ρ n fr ((γL E ρ l).toArray ++ Array.replicate m undef):=by
 intro t v hv
 have h2:=hfr t v hv
 have ht:t<l.length:=(List.getElem?_eq_some_iff.1 h2).1
 refine⟨?_,(yg _ l).1 hbd v (List.mem_of_getElem? h2)⟩
 rw[Array.getElem?_append_left (by simp[γL_length];exact ht)]
 simp[γL_get,h2]
theorem zd4 {Y:Ty} (hY:TyOk P Y) (hm:P.follows .mixedOrders=true) {dr:Nat->Option Dr} {call:zy} (hcall:zi E P call) {sub:Nat->Option zdL} {fuel G:Nat} {f:Func} {c:Code} (hfn:P.funcs[G]? = some f) (hb:f.body=some c) (hres:f.results.toList=[])
  (s:LS) (hand:zeC) (yid:Ev.P) (l:List V) (h:H) (fa:Fa) (k:H->Fa->Pd->Nat) (hh:zcP E P (zW E s yid) yid hand) (hsub:SubA E P (zW E s yid) yid hand sub) (hk:itrT (z4 Y f.ntmps dr c true) call G fuel sub hand yid l h fa k=0) (hfa:FaOk E fa) :
  ∃ h' fa' pd',k h' fa' pd'=0/\FaOk E fa'/\∀ (i:LI) ρ w,bdL h.n.toNat l->Sat E ρ h w->(zW E s yid i).J none [] ρ h w->Calls P G (#[yvOf i.b] ++ (γL E ρ l).toArray) w fun e w'=>
  (∃ v,e=.returned v)/\∃ ρ',Sat E ρ' h' w'/\(zW E s yid i).J pd' [] ρ' h' w'/\Ext ρ h ((zW E s yid i).m w) ρ' h' ((zW E s yid i).m w'):=by
 obtain⟨fr,hk,hfr⟩:=jH hk
 obtain⟨ae,fr1,h1,fa1,pd1,hk1,hfa1,r1⟩:=jc (P:=P) (M:=zW E s yid) (rg:=true) hY hm (dr:=dr) (c:=⟨call,G,fuel,hand,yid,zdx,sub⟩) hcall (fun i=>ziP s yid i) hh hsub (sc:=true) (fun _=>rfl) (zcx rfl) c fr h fa none _ hfa hk
 have fin:(AE.exit' ae=.normal\/AE.exit' ae=.ret)->k h1 fa1 pd1=0->∃ h' fa' pd',k h' fa' pd'=0/\FaOk E fa'/\∀ (i:LI) ρ w,bdL h.n.toNat l->Sat E ρ h w->(zW E s yid i).J none [] ρ h w->Calls P G (#[yvOf i.b] ++ (γL E ρ l).toArray) w fun e w'=>
  (∃ v,e=.returned v)/\∃ ρ',Sat E ρ' h' w'/\(zW E s yid i).J pd' [] ρ' h' w'/\Ext ρ h ((zW E s yid i).m w) ρ' h' ((zW E s yid i).m w'):=by
  intro hae hk
  refine⟨h1,fa1,pd1,hk,hfa1,fun i ρ w hbd hs hJ=>?_⟩
  have hyb:=hJ.2.2.2.2.2.2.2.2.1
  have hyn:=hJ.2.2.2.2.2.2.2.2.2
  have eargs:#[yvOf i.b] ++ (γL E ρ l).toArray=(γL E ρ (.yd yid::l)).toArray:=by
   simp only[γL,V.γ,hyb,yvOf]
   apply Array.ext'
   simp
  rw[eargs]
  refine calls_of_wp hfn hb ?_
  refine(wpIn_wide (n:=0)).1 (r1 i none 0 ρ w ⟨_,[]⟩ _ (fun _=>rfl) hs (zl8 hfr ⟨hyn,hbd⟩) (by simp[γL_length];omega) hJ ?_)
  rintro a' w' ⟨ρ',f1,n1,s1,j1,x1⟩
  have hd:a'.defers=[]:=j1.1
  rw[hd]at j1
  have hr:∃ v,(results f a'.tmps).run P w'=.ok v w':=by
   have e0:results f a'.tmps=(do
    let vs <- f.results.mapM (resS a'.tmps)
    pure (if h:vs.size=1 then vs[0] else .tuple vs)):=rfl
   rw[e0,Sem.run_bind,Array.mapM_eq_mapM_toList,Sem.run_map,hres]
   exact⟨_,rfl⟩
  obtain⟨v,hv⟩:=hr
  have:bodyPost P f (fun e w'=>(∃ v,e=.returned v)/\∃ ρ',Sat E ρ' h1 w'/\(zW E s yid i).J pd1 [] ρ' h1 w'/\Ext ρ h ((zW E s yid i).m w) ρ' h1 ((zW E s yid i).m w')) .ret a' w':=⟨hd,v,hv,⟨v,rfl⟩,ρ',s1,j1,x1⟩
  rcases hae with h | h <;> rw[h] <;> exact this
 cases ae with
 | normal=>exact fin (.inl rfl) hk1
 | ret=>exact fin (.inr rfl) hk1
 | exit i=>exact absurd (show (1:Nat)=0 from hk1) (by simp)
theorem zji {Y:Ty} (hY:TyOk P Y) (hm:P.follows .mixedOrders=true) {dr:Nat->Option Dr} {call:zy} (hcall:zi E P call) {sub:Nat->Option zdL} {fuel G:Nat} {f:Func} {c:Code} {rs:List IR} (hfn:P.funcs[G]? = some f) (hb:f.body=some c) (hrs:zbd Y f.results.toList=some rs)
  (s:LS) (hand:zeC) (yid:Ev.P) (l:List V) (h:H) (fa:Fa) (k:V->H->Fa->Pd->Nat) (hh:zcP E P (zW E s yid) yid hand) (hsub:SubA E P (zW E s yid) yid hand sub) (hk:subT (z4 Y f.ntmps dr c true) rs call G fuel sub hand yid l h fa k=0) (hfa:FaOk E fa) :
  ∃ v h' fa' pd',k v h' fa' pd'=0/\FaOk E fa'/\∀ (i:LI) ρ w ds,bdL h.n.toNat l->Sat E ρ h w->(zW E s yid i).J none ds ρ h w->Calls P G (γL E ρ l).toArray w fun e w'=>
  ∃ ρ',e=.returned (v.γ E ρ')/\Sat E ρ' h' w'/\(zW E s yid i).J pd' ds ρ' h' w'/\Ext ρ h ((zW E s yid i).m w) ρ' h' ((zW E s yid i).m w')/\v.bd h'.n.toNat:=by
 obtain⟨fr,hk,hfr⟩:=jH hk
 obtain⟨ae,fr1,h1,fa1,pd1,hk1,hfa1,r1⟩:=jc (P:=P) (M:=zW E s yid) (rg:=true) hY hm (dr:=dr) (c:=⟨call,G,fuel,hand,yid,zdx,sub⟩) hcall (fun i=>ziP s yid i) hh hsub (sc:=true) (fun _=>rfl) (zcx rfl) c fr h fa none _ hfa hk
 have fin:(AE.exit' ae=.normal\/AE.exit' ae=.ret)->za0 rs fr1 h1 (fun v=>k v h1 fa1 pd1) 1=0->∃ v h' fa' pd',k v h' fa' pd'=0/\FaOk E fa'/\∀ (i:LI) ρ w ds,bdL h.n.toNat l->Sat E ρ h w->(zW E s yid i).J none ds ρ h w->Calls P G (γL E ρ l).toArray w fun e w'=>
  ∃ ρ',e=.returned (v.γ E ρ')/\Sat E ρ' h' w'/\(zW E s yid i).J pd' ds ρ' h' w'/\Ext ρ h ((zW E s yid i).m w) ρ' h' ((zW E s yid i).m w')/\v.bd h'.n.toNat:=by
  intro hae hr
  obtain⟨vs,hvs,hr⟩:=zA (show oc (zbv fr1 h1 rs) _ _=0 from hr) (by simp)
  have hv:∃ v,k v h1 fa1 pd1=0/\(∀ n,bdL n vs->v.bd n)/\∀ ρ,(if h:(γL E ρ vs).toArray.size=1 then (γL E ρ vs).toArray[0] else .tuple (γL E ρ vs).toArray)=v.γ E ρ:=by
   match vs,hr with
   | [],hr=>exact⟨.tup [],hr,fun n hn=>hn,fun ρ=>rfl⟩
   | [x],hr=>exact⟨x,hr,fun n hn=>hn.1,fun ρ=>by simp[γL]⟩
   | x::y::r,hr=>exact⟨.tup (x::y::r),hr,fun n hn=>hn,fun ρ=>by simp[γL,V.γ]⟩
  obtain⟨v,hkv,hvb,hvγ⟩:=hv
  refine⟨v,h1,fa1,pd1,hkv,hfa1,fun i ρ w ds hbd hs hJ=>?_⟩
  have hds:ds=[]:=hJ.1
  subst hds
  refine calls_of_wp hfn hb ?_
  refine(wpIn_wide (n:=0)).1 (r1 i none 0 ρ w ⟨_,[]⟩ _ (fun _=>rfl) hs (zl8 hfr hbd) (by simp[γL_length];omega) hJ ?_)
  rintro a' w' ⟨ρ',f1,n1,s1,j1,x1⟩
  have hd:a'.defers=[]:=j1.1
  rw[hd]at j1
  obtain⟨e1,b1⟩:=js hY hrs s1 f1 hvs
  rw[hvγ]at e1
  have:bodyPost P f (fun e w'=>∃ ρ',e=.returned (v.γ E ρ')/\Sat E ρ' h1 w'/\(zW E s yid i).J pd1 [] ρ' h1 w'/\Ext ρ h ((zW E s yid i).m w) ρ' h1 ((zW E s yid i).m w')/\v.bd h1.n.toNat) .ret a' w':=⟨hd,_,e1,ρ',rfl,s1,j1,x1,hvb _ b1⟩
  rcases hae with h | h <;> rw[h] <;> exact this
 cases ae with
 | normal=>exact fin (.inl rfl) hk1
 | ret=>exact fin (.inr rfl) hk1
 | exit i=>exact absurd (show (1:Nat)=0 from hk1) (by simp)
theorem zdz {f:Func} {tmps:Array Value} {R:Ending->World->Prop} {ρ0 ρ:Rho} {h0 h:H} {w0:World}:∀ (bs:List Nat) (w:World),bs.Nodup->(∀ b∈bs,w0.heap.size<=b/\w.heap[b]? = some (.deferred (some []))/\Unb b ρ h)->Sat E ρ h w->Ext ρ0 h0 w0 ρ h w ->
  (∀ w',Sat E ρ h w'->Ext ρ0 h0 w0 ρ h w'->LeavesInM Fence.wide 0 P f tmps R [] .returning w')->LeavesInM Fence.wide 0 P f tmps R (bs.map zlU) .returning w
 | [],w,_,_,hs,hx,hR=>hR w hs hx
 | b::r,w,hn,hb,hs,hx,hR=>by
  obtain⟨n1,n2⟩:=List.nodup_cons.1 hn
  obtain⟨g1,g2,g3⟩:=hb b List.mem_cons_self
  refine⟨by simp,.inl ⟨b,_,rfl,run_takeDeferred g2,zdz r _ n2 (fun c hc=>?_) (zeL hs g3) ?_ hR⟩⟩
  ·obtain⟨k1,k2,k3⟩:=hb c (List.mem_cons_of_mem _ hc)
   exact⟨k1,by rw[World.putObj_heap_other (fun e=>n1 (by subst e;exact hc))];exact k2,k3⟩
  ·refine⟨hx.len,hx.lo,hx.agree,hx.new,hx.os,hx.tape,hx.output,by rw[World.putObj_size];exact hx.size,fun c hc hno=>?_,hx.old,hx.liv⟩
   rw[World.putObj_heap_other (by omega)]
   exact hx.keep c hc hno
theorem zdT {Y:Ty} (hY:TyOk P Y) (hm:P.follows .mixedOrders=true) {dr:Nat->Option Dr} {call:zy} (hcall:zi E P call) {itr:Nat->Option zdM} (hitr:zw3 E P itr) {fuel F:Nat} {f:Func} {c:Code} {rs:List IR} (hfn:P.funcs[F]? = some f) (hca:yl P F) (hb:f.body=some c)
  (hrs:zbd Y f.results.toList=some rs):zi E P (fun G l h fa k=>bc (Nat.beq G F) (rfnT (z4 Y f.ntmps dr c true) rs call F fuel itr l h fa k) 1):=by
 intro G l h fa k hk hfa
 obtain⟨hG,hk⟩:=zn (show bc (Nat.beq G F) _ 1=0 from hk) (by simp)
 have hG:G=F:=by simpa using hG
 subst hG
 refine⟨hca,?_⟩
 obtain⟨fr,hk,hfr⟩:=jH hk
 obtain⟨ae,fr1,h1,fa1,pd1,hk1,hfa1,r1⟩:=jc (P:=P) (M:=zmf) (rg:=true) hY hm (dr:=dr) (c:=⟨call,G,fuel,zcX,.h,itr,zcb⟩) hcall zye zd0 za1 (sc:=true) (fun _=>rfl) (rng_run hY hm hcall hitr) c fr h fa none _ hfa hk
 have fin:(AE.exit' ae=.normal\/AE.exit' ae=.ret)->za0 rs fr1 h1 (fun v=>k v h1 fa1) 1=0->∃ v h' fa',k v h' fa'=0/\FaOk E fa' /\
   ∀ ρ w,bdL h.n.toNat l->Sat E ρ h w->Calls P G (γL E ρ l).toArray w fun e w'=>∃ ρ',e=.returned (v.γ E ρ')/\Sat E ρ' h' w'/\Ext ρ h w ρ' h' w'/\v.bd h'.n.toNat:=by
  intro hae hr
  obtain⟨vs,hvs,hr⟩:=zA (show oc (zbv fr1 h1 rs) _ _=0 from hr) (by simp)
  have hv:∃ v,k v h1 fa1=0/\(∀ n,bdL n vs->v.bd n)/\∀ ρ,(if h:(γL E ρ vs).toArray.size=1 then (γL E ρ vs).toArray[0] else .tuple (γL E ρ vs).toArray)=v.γ E ρ:=by
   match vs,hr with
   | [],hr=>exact⟨.tup [],hr,fun n hn=>hn,fun ρ=>rfl⟩
   | [x],hr=>exact⟨x,hr,fun n hn=>hn.1,fun ρ=>by simp[γL]⟩
   | x::y::r,hr=>exact⟨.tup (x::y::r),hr,fun n hn=>hn,fun ρ=>by simp[γL,V.γ]⟩
  obtain⟨v,hkv,hvb,hvγ⟩:=hv
  refine⟨v,h1,fa1,hkv,hfa1,fun ρ w hbd hs=>?_⟩
  refine(callsIn_wide (n:=0)).1 (callsIn_of_wp_marks (F:=Fence.wide) hfn hb trivial ?_ rfl)
  refine r1 w.heap.size none 0 ρ w ⟨_,[]⟩ _ (by simp) hs (zl8 hfr hbd) (by simp[γL_length];omega) ⟨Nat.le_refl _,[],rfl,List.nodup_nil,fun b hb=>by cases hb⟩ ?_
  rintro a1 w1 ⟨ρ1,f1,n1,s1,⟨_,bs,hds,hnd,hbs⟩,x1⟩
  have x1:Ext ρ h w ρ1 h1 w1:=x1
  have this:bodyPostM Fence.wide 0 P f (fun e w'=>∃ ρ',e=.returned (v.γ E ρ')/\Sat E ρ' h1 w'/\Ext ρ h w ρ' h1 w'/\v.bd h1.n.toNat) .ret a1 w1:=by
   show LeavesInM Fence.wide 0 P f a1.tmps _ a1.defers .returning w1
   rw[hds]
   refine zdz bs w1 hnd hbs s1 x1 fun w' s2 x2=>?_
   obtain⟨e1,b1⟩:=js hY hrs s2 f1 hvs
   rw[hvγ]at e1
   exact⟨_,e1,ρ1,rfl,s2,x2,hvb _ b1⟩
  rcases hae with h | h <;> rw[h] <;> exact this
 cases ae with
 | normal=>exact fin (.inl rfl) hk1
 | ret=>exact fin (.inr rfl) hk1
 | exit i=>exact absurd (show (1:Nat)=0 from hk1) (by simp)
end Go.Ev
end
set_option linter.unusedSimpArgs false
set_option linter.unusedVariables false
noncomputable section
namespace Go.Ev
open Go
def zem (a b:Nat):Nat:=Nat.rec (motive:=fun _=>Nat) b (fun n _=>Nat.succ n) a
def allT {α:Type} (f:α->Nat):List α->Nat
 | []=>0
 | x::r=>zem (f x) (allT f r)
def zjk {α:Type} (b:Bool) (f:α->Nat) (l:List α):Nat:=bc b (allT f l) (match l with
 | []=>1
 | x::_=>f x)
def insP {α:Type} (x:α):List α->List (List α)
 | []=>[[x]]
 | a::r=>(x::a::r)::(insP x r).map (fun l=>a::l)
def zdY {α:Type}:List α->List (List α)
 | []=>[[]]
 | a::r=>(zdY r).flatMap (insP a)
inductive ION where
 | io (x:OI) | nxt (d:Option Ky) (i:Od) | rng (m:Od) (x:OI)
inductive ICN where
 | fork (bs:List Ky) (pre xs ys:List (Bool × OI)) | det (c:IC) | seq (a b:ICN) | cond (t:Ky) (a b:ICN) | block (i:Nat) (a:ICN) | loop (a:ICN) | ops (l:List ION) | bad
def zed (Y:Ty) (N:Nat) (all:List Oper) (o:Oper):Option ION:=match o.op,o.guard with
 | .next i false,none=>match zef N o.dst,cOd i with
  | some d,some i=>some (.nxt d i)
  | _,_=>none
 | .range _ m,_=>match cOd m,jQ Y N all o with
  | some m,some x=>some (.rng m x)
  | _,_=>none
 | _,_=>match jQ Y N all o with
  | some x=>some (.io x)
  | none=>none
def zaS (Y:Ty) (N:Nat) (all:List Oper):List Oper->Option (List ION)
 | []=>some []
 | o::r=>match zed Y N all o,zaS Y N all r with
  | some x,some l=>some (x::l)
  | _,_=>none
def yR (Y:Ty) (N:Nat) (dr:Nat->Option Dr):Code->ICN
 | .seq a b=>.seq (yR Y N dr a) (yR Y N dr b)
 | .cond (.tmp t) a b=>.cond (zp t) (yR Y N dr a) (yR Y N dr b)
 | .block i a=>.block i (yR Y N dr a)
 | .loop a=>.loop (yR Y N dr a)
 | .scope a=>yR Y N dr a
 | .region _ ops false=>match zaS Y N ops.toList ops.toList with
  | some l=>.ops l
  | none=>.bad
 | .region id ops true=>match dr id with
  | some (.fork bs pre xs ys)=>match zZ Y N ops.toList (pre.map (fun i=>(true,i))),zZ Y N ops.toList xs,zZ Y N ops.toList ys with
   | some p,some a,some b=>.fork (bs.map zp) p a b
   | _,_,_=>.bad
  | _=>.det (yo Y N dr (.region id ops true))
 | c=>.det (yo Y N dr c)
def nNxt (b:Bool) (d:Option Ky) (i:Od):S1:=fun c fr h fa k=>
 itOf h (od i fr) (fun id m l seen=>bc (zaI h id) (match zbi seen l 0 with
  | []=>yI d fa (.tup [.b false]) fr (fun fr=>k fr h fa)
  | p::q=>zjk b (fun p=>zfa h id m l seen p (fun v h=>yI d fa v fr (fun fr=>k fr h fa))) (p::q)) 1) (yI d fa (.tup [.b false]) fr (fun fr=>k fr h fa)) 1
def fixT (b:Bool) (h:H) (v:Option V) (k:H->Nat):Nat:=match v with
 | some (.mp id)=>match ya h id with
  | some (.map l)=>bc (Nat.ble (len l) 1) (k h) (bc (zaI h id) (zjk b (fun l'=>jL h id (.x (.mx l')) k) (zdY l)) 1)
  | _=>k h
 | _=>k h
def nOp (b:Bool) (x:ION):S1:=fun c fr h fa k=>match x with
 | .io x=>OI.go zam jd x c fr h fa k
 | .nxt d i=>nNxt b d i c fr h fa k
 | .rng m x=>fixT b h (od m fr) (fun h=>OI.go zam jd x c fr h fa k)
def zlR (b:Bool):List ION->S1
 | []=>fun _ fr h fa k=>k fr h fa
 | x::r=>fun c fr h fa k=>nOp b x c fr h fa (fun fr h fa=>zlR b r c fr h fa k)
def jq (b:Bool):ICN->S2
 | .det c=>jp c
 | .fork bs p x y=>fun c fr h fa k=>zcN fr (err c 64) bs h (fun hS=>z3 hS p c fr h fa (fun fr h fa=>zjk b (fun l=>z3 hS l c fr h fa (fun fr h fa=>k .normal fr h fa)) [x,y]))
 | .seq x y=>cSeq (jq b x) (jq b y)
 | .cond t x y=>cCond t (jq b x) (jq b y)
 | .block i x=>cBlock i (jq b x)
 | .loop x=>cLoop (jq b x)
 | .ops l=>fun c fr h fa k=>zlR b l c fr h fa (fun fr h fa=>k .normal fr h fa)
 | .bad=>cBad
structure IFnN where
 body:ICN
 res:List IR
def cFnN (Y:Ty) (dr:Nat->Option Dr) (f:Func):Option IFnN:=
 match f.body,zbd Y f.results.toList with
 | some c,some rs=>some ⟨yR Y f.ntmps dr c,rs⟩
 | _,_=>none
def fnN (b:Bool) (x:ICN) (rs:List IR) (call:zy) (F fuel:Nat) (l:List V) (h:H) (fa:Fa) (k:K):Nat:=
 zbp l (fun fr=>jq b x ⟨call,F,fuel⟩ fr h fa (fun e fr h fa=>je e (za0 rs fr h (fun v=>k v h fa) (Nat.succ (Nat.add (Nat.mul F 100) 49))) (za0 rs fr h (fun v=>k v h fa) (Nat.succ (Nat.add (Nat.mul F 100) 49))) (fun _=>Nat.succ (Nat.add (Nat.mul F 100) 48))))
def unmx (o:O) (k:O->Nat):Nat:=match o with
 | .x (.mx l)=>k (.map l)
 | o=>k o
def zca:PT O->PT O->(PT O->Nat)->Nat
 | .n v l r,.n v' l' r',k=>zca l l' (fun a=>zca r r' (fun b=>match v,v' with
  | some _,some o=>unmx o (fun o=>k (.n (some o) a b))
  | _,_=>k (.n none a b)))
 | _,_,k=>k .e
def rmV (p:V × V):List (V × V)->Option (List (V × V))
 | []=>none
 | q::r=>bc (V.beq p.1 q.1 && V.beq p.2 q.2) (some r) (match rmV p r with
  | some s=>some (q::s)
  | none=>none)
def ztC:List (V × V)->List (V × V)->Bool
 | [],[]=>true
 | a::r,l=>match rmV a l with
  | some s=>ztC r s
  | none=>false
 | _,_=>false
def chkO:Option O->Option O->Bool
 | none,_=>true
 | some (.map l),some (.x (.mx l'))=>ztC l' l
 | some a,some b=>O.beq a b
 | _,_=>false
def zfq:PT O->PT O->Bool
 | .e,_=>true
 | .n v l r,.n v' l' r'=>chkO v v' && zfq l l' && zfq r r'
 | _,_=>false
def chkN (v:V) (n lo:Ev.P) (t:PT O):K:=fun v2 h2 _=>bc (V.beq v2 v) (bc (hc h2 (fun n' lo' t'=>pLe n' n && pEq lo lo' && zfq t t')) 0 1) 1
def cntT (x:ICN) (rs:List IR) (call:zy) (F fuel:Nat):List V->H->Fa->K->Nat:=fun l h fa k=>hc h (fun n lo t=>bc (isH lo)
 (fnN false x rs call F fuel l h fa (fun v h1 _=>hc h1 (fun n1 _ t1=>zca t t1 (fun t'=>zem (fnN true x rs call F fuel l h fa (chkN v n1 lo t')) (k v ⟨n1,lo,t'⟩ fa))))) 1)
end Go.Ev
end
set_option linter.unusedSimpArgs false
set_option linter.unusedVariables false
noncomputable section
namespace Go.Ev
open Go
variable {E:Env} {P:Program} {N:Nat}
theorem sel2 {α:Type} {f:α->Nat} {x y:α} (h:zjk true f [x,y]=0):f x=0/\f y=0:=by
 have h:zem (f x) (zem (f y) 0)=0:=h
 cases e:f x with
 | succ n=>rw[e]at h;cases h
 | zero=>
  rw[e]at h
  have h:zem (f y) 0=0:=h
  cases e2:f y with
  | succ n=>rw[e2]at h;cases h
  | zero=>exact⟨rfl,rfl⟩
theorem hop_one {Y:Ty} (hY:TyOk P Y) {g:Ctx} (hcall:zi E P g.call) {all:List Oper} {hS:H} {k:K1} {o:Oper} {x:OI} (hx:jQ Y N all o=some x) {fr:Fr} {h:H} {fa:Fa} (hfa:FaOk E fa)
  (hk:OI.go (hOp hS) (ziU hS) x g fr h fa k=0):∃ fr1 h1 fa1,k fr1 h1 fa1=0/\FaOk E fa1/\o.guard=none /\
   ∀ {DS:List Deferred} ρ w a QQ,(∀ p o,hS.t.get p=some o->p.toNat<hS.n.toNat)->hS.n.toNat<=h.n.toNat->yr hS h->Sat E ρ h w->zw E ρ h.n.toNat fr (a:Act).tmps->N<=a.tmps.size->a.defers=DS->o.wp P a w (fun a1 w1=>At E N DS ρ h w fr1 h1 a1 w1/\yr hS h1) QQ:=by
 obtain⟨d,gg,hd,hg,hxx⟩:=z8 hx
 have one:∀ fr1 h1 fa1,FaOk E fa1->o.guard=none->k fr1 h1 fa1=0 ->
   (∀ {DS:List Deferred} ρ w a QQ,(∀ p o,hS.t.get p=some o->p.toNat<hS.n.toNat)->hS.n.toNat<=h.n.toNat->yr hS h->Sat E ρ h w->zw E ρ h.n.toNat fr (a:Act).tmps->N<=a.tmps.size->a.defers=DS->o.wp P a w (fun a1 w1=>At E N DS ρ h w fr1 h1 a1 w1/\yr hS h1) QQ) ->
   ∃ fr1 h1 fa1,k fr1 h1 fa1=0/\FaOk E fa1/\o.guard=none /\
   ∀ {DS:List Deferred} ρ w a QQ,(∀ p o,hS.t.get p=some o->p.toNat<hS.n.toNat)->hS.n.toNat<=h.n.toNat->yr hS h->Sat E ρ h w->zw E ρ h.n.toNat fr (a:Act).tmps->N<=a.tmps.size->a.defers=DS->o.wp P a w (fun a1 w1=>At E N DS ρ h w fr1 h1 a1 w1/\yr hS h1) QQ:=
  fun fr1 h1 fa1 a b c d=>⟨fr1,h1,fa1,c,a,b,d⟩
 rcases hxx with ⟨ii,hi,rfl⟩ | ⟨cl,f0,f,ll,hop,hcal,hf0,hll,rfl⟩
 ·have hk:oc gg (fun _=>err g 60) (bc (zad ii fr hS) (evI ii fr h (fun v h=>yI d fa v fr (fun fr=>k fr h fa)) (err g (yu ii))) (bc (zN ii) (evI ii fr h (fun v _=>yI d fa v fr (fun fr=>k fr h fa)) (err g (yu ii))) (err g 61)))=0:=hk
  cases gg with
  | some gg=>exact absurd (show err g 60=0 from hk) (zl _ _)
  | none=>
   have hk:bc (zad ii fr hS) (evI ii fr h (fun v h=>yI d fa v fr (fun fr=>k fr h fa)) (err g (yu ii))) (bc (zN ii) (evI ii fr h (fun v _=>yI d fa v fr (fun fr=>k fr h fa)) (err g (yu ii))) (err g 61))=0:=hk
   cases hmk:zad ii fr hS with
   | false=>
    rw[hmk]at hk
    obtain⟨hst,hk⟩:=zn (show bc (zN ii) _ _=0 from hk) (zl _ _)
    obtain⟨v,_,hk,hrun⟩:=yh hY hi hst hk (zl _ _)
    obtain⟨fr1,hk,hput⟩:=zP hfa hd hk
    refine one fr1 h fa hfa (yx hg) hk fun {DS} ρ w a QQ hbd hn hke hs hf hN hdf=>?_
    obtain⟨q1,q2⟩:=hrun E ρ _ a w (Nat.le_refl _) hf hs
    obtain⟨g1,g2,g3⟩:=hput ρ _ a hf hN q2
    unfold Oper.wp
    rw[q1]
    exact⟨⟨ρ,g1,g2,g3.trans hdf,hs,hs.refl E⟩,hke⟩
   | true=>
   rw[hmk]at hk
   have hk:evI ii fr h (fun v h=>yI d fa v fr (fun fr=>k fr h fa)) (err g (yu ii))=0:=hk
   obtain⟨v,h1,hk,hrun,hkeep⟩:=zaQ hY hi hmk hk (zl _ _)
   obtain⟨fr1,hk,hput⟩:=zP hfa hd hk
   refine one fr1 h1 fa hfa (yx hg) hk fun {DS} ρ w a QQ hbd hn hke hs hf hN hdf=>?_
   obtain⟨ρ',w',nx,hr,hnx,hs',hx',hb⟩:=hrun E ρ a w hf hs
   obtain⟨g1,g2,g3⟩:=hput ρ' _ a (hf.mono hx'.len hx'.agree) hN hb
   unfold Oper.wp
   rw[hr]
   have hgo:At E N DS ρ h w fr1 h1 (a.put o.dst (v.γ E ρ')) w'/\yr hS h1:=⟨⟨ρ',g1,g2,g3.trans hdf,hs',hx'⟩,hkeep hbd hn hke⟩
   rcases hnx with rfl | ⟨rfl,rfl⟩
   ·exact hgo
   ·exact hgo
 ·have hk:oc gg (fun _=>err g 62) (hc h (fun n lo t=>hc hS (fun m _ _=>bc (pLe lo m) (jU f ll g fr ⟨n,m,t⟩ fa (fun v h' fa=>hc h' (fun n' _ t'=>jC d v fr (fun fr=>k fr ⟨n',lo,t'⟩ fa)))) (err g 65))))=0:=hk
  cases gg with
  | some gg=>exact absurd (show err g 62=0 from hk) (zl _ _)
  | none=>
   have hk:hc h (fun n lo t=>hc hS (fun m _ _=>bc (pLe lo m) (jU f ll g fr ⟨n,m,t⟩ fa (fun v h' fa=>hc h' (fun n' _ t'=>jC d v fr (fun fr=>k fr ⟨n',lo,t'⟩ fa)))) (err g 65)))=0:=hk
   rw[jX,jX]at hk
   obtain⟨hlo,hk⟩:=zn hk (zl _ _)
   have hlo:h.lo.toNat<=hS.n.toNat:=by simpa [pLe] using hlo
   obtain⟨F,vl,v,h1,fa1,hk,hfa1,hr,hdo⟩:=jY hop hcal hf0 hll hcall hfa hk
   rw[jX]at hk
   obtain⟨fr1,hk,hput⟩:=z7 hd hk
   refine one fr1 ⟨h1.n,h.lo,h1.t⟩ fa1 hfa1 (yx hg) hk fun {DS} ρ w a QQ hbd hn hke hs hf hN hdf=>?_
   obtain⟨hvb,hex⟩:=hr ρ _ a hf
   unfold Oper.wp
   rw[hex,Oper.upon_enter]
   refine(hdo ρ w hvb ⟨hs.obj,hs.inj,hs.bd⟩).mono ?_
   rintro e w' ⟨ρ',rfl,hs',hx',hb⟩
   have hx2:Ext ρ h w ρ' ⟨h1.n,h.lo,h1.t⟩ w':=by
    refine⟨hx'.len,rfl,hx'.agree,fun p o hp hg hl=>?_,hx'.os,hx'.tape,hx'.output,hx'.size,fun b hb hno=>hx'.keep b hb fun p o hp hl hlo2=>hno p o hp hl (Nat.le_trans hlo hlo2),fun p hp hq=>hx'.old p (Nat.lt_of_lt_of_le hp hlo) hq,hx'.liv⟩
    rcases hx'.new p o hp hg hl with h3 | ⟨q,o',h3,h4,h5,h6⟩
    ·exact .inl h3
    ·exact .inr ⟨q,o',h3,h4,Nat.le_trans hlo h5,h6⟩
   obtain⟨g1,g2,g3⟩:=hput E ρ' _ a (hf.mono hx2.len hx2.agree) hN hb
   refine⟨⟨ρ',g1,g2,g3.trans hdf,⟨hs'.obj,hs'.inj,hs'.bd⟩,hx2⟩,fun p o hp hl=>?_⟩
   have hpS:=hbd p o hp
   have:=hx'.old p hpS (show p.toNat<h.n.toNat by omega)
   show h1.t.get p=some o
   rw[this];exact hke p o hp hl
theorem zeM {Y:Ty} (hY:TyOk P Y) {g:Ctx} {ops:Array Oper} (hsel:Region.noSelect ops=true) {hS:H} {k:K1} {h:H}:∀ (pre:List Nat) (l:List (Bool × OI)) (fr:Fr) (fa:Fa),
  zZ Y N ops.toList (pre.map (fun i=>(true,i)))=some l->FaOk E fa->z3 hS l g fr h fa k=0 ->
  ∃ fr' fa',k fr' h fa'=0/\FaOk E fa'/\∀ L L' m,zfs ops pre L=some L'->∀ {DS:List Deferred} ρ0 ρ w a QQ,hS.n.toNat<=h.n.toNat->Sat E ρ0 hS w->(∀ p:Ev.P,p.toNat<hS.n.toNat->ρ p=ρ0 p)->zw E ρ h.n.toNat fr (a:Act).tmps->N<=a.tmps.size->a.defers=DS ->
   (∀ c a w,¬ QQ (.panic c) a w)->(∀ a',zw E ρ h.n.toNat fr' (a':Act).tmps->N<=a'.tmps.size->a'.defers=DS->wpAnyH P .any ops QQ (Sat E ρ0 hS) m L' a' w)->wpAnyH P .any ops QQ (Sat E ρ0 hS) (pre.length+m) L a w
 | [],l,fr,fa,hl,hfa,hk=>by
  simp[zZ]at hl;subst hl
  refine⟨fr,fa,hk,hfa,fun L L' m hL {DS} ρ0 ρ w a QQ hn hs0 ha hf hN hd hp hq=>?_⟩
  simp only[zfs,Option.some.injEq]at hL
  subst hL
  rw[List.length_nil,Nat.zero_add]
  exact hq a hf hN hd
 | i::r,l,fr,fa,hl,hfa,hk=>by
  obtain⟨o,x,l2,ho,hx,hl2,rfl⟩:=yf (show zZ Y N ops.toList ((true,i)::r.map (fun i=>(true,i)))=some l from hl)
  rw[zX,Array.getElem?_toList]at ho
  have hk:OI.go qOp hNo x g fr hS fa (fun fr _ fa=>z3 hS l2 g fr h fa k)=0:=hk
  obtain⟨d,gg,hd,hg,hxx⟩:=z8 hx
  rcases hxx with ⟨ii,hi,rfl⟩ | ⟨cl,f0,f,ll,hop,hcal,hf0,hll,rfl⟩
  rotate_left
  ·exact absurd (show err g 63=0 from hk) (zl _ _)
  have hk:qOp d gg ii g fr hS fa (fun fr _ fa=>z3 hS l2 g fr h fa k)=0:=hk
  have go:∀ {L L':Array Bool},zfs ops (i::r) L=some L'->(Region.free .any ops L i=true/\(Region.ready .any ops L).contains i=true)/\zfs ops r (L.setIfInBounds i true)=some L':=by
   intro L L' hL
   simp only[zfs]at hL
   cases hc:(decide (i<ops.size) && Region.free .any ops L i && (Region.ready .any ops L).contains i) with
   | false=>rw[hc]at hL;cases hL
   | true=>
    rw[hc]at hL
    simp only[Bool.and_eq_true]at hc
    exact⟨⟨hc.1.2,hc.2⟩,hL⟩
  rcases yE hg hfa hk with ⟨fa1,hfa1,hk,hw⟩ | ⟨fa1,hfa1,hk,hw⟩
  ·obtain⟨hst,hk⟩:=zn hk (zl _ _)
   obtain⟨v,h',hk,hrun⟩:=yh hY hi hst hk (zl _ _)
   obtain⟨fr1,hk,hput⟩:=zP hfa1 hd hk
   obtain⟨fr2,fa2,hk2,hfa2,hr2⟩:=zeM hY hsel r l2 fr1 fa1 hl2 hfa1 hk
   refine⟨fr2,fa2,hk2,hfa2,fun L L' m hL {DS} ρ0 ρ w a QQ hn hs0 ha hf hN hdf hp hq=>?_⟩
   have conv:∀ w,Sat E ρ0 hS w->Sat E ρ hS w:=fun w s=>y6 (ρ0:=ρ) (h:=hS) ⟨fun p o hp=>O.Is_agree E (fun i hi=>ha i hi) (s.bd p o hp).2 (by rw[ha p (s.bd p o hp).1];exact s.obj p o hp),
    fun p q o o' hp hq l1 l2 he=>s.inj p q o o' hp hq l1 l2 (by rw[<- ha p (s.bd p o hp).1,<- ha q (s.bd q o' hq).1];exact he),s.bd⟩ s (fun p o hp _=>hp) (fun p hp=>(ha p hp).symm)
   obtain⟨⟨hfree,hready⟩,hL⟩:=go hL
   obtain⟨g1,g2,g3⟩:=hput ρ _ a hf hN (hrun E ρ _ a w hn hf (conv w hs0)).2
   rw[show (i::r).length+m=(r.length+m)+1 from by simp only[List.length_cons];omega]
   refine wpAnyH_take (i:=i) ho hsel hfree hready (fun c a w hh=>absurd hh (hp c _ w)) (.inl ⟨hw ρ _ a hf,fun w' hw'=>(hrun E ρ _ a w' hn hf (conv w' hw')).1⟩) hs0 ?_
   exact hr2 _ _ m hL ρ0 ρ w _ QQ hn hs0 ha g1 g2 (g3.trans hdf) hp hq
  ·obtain⟨fr1,hk,hput⟩:=z7 hd hk
   obtain⟨fr2,fa2,hk2,hfa2,hr2⟩:=zeM hY hsel r l2 fr1 fa1 hl2 hfa1 hk
   refine⟨fr2,fa2,hk2,hfa2,fun L L' m hL {DS} ρ0 ρ w a QQ hn hs0 ha hf hN hdf hp hq=>?_⟩
   obtain⟨⟨hfree,hready⟩,hL⟩:=go hL
   obtain⟨g1,g2,g3⟩:=hput E ρ h.n.toNat a hf hN (by trivial)
   rw[show (i::r).length+m=(r.length+m)+1 from by simp only[List.length_cons];omega]
   refine wpAnyH_take (i:=i) ho hsel hfree hready (fun c a w hh=>absurd hh (hp c _ w)) (.inr ⟨hw ρ _ a hf,rfl⟩) hs0 ?_
   exact hr2 _ _ m hL ρ0 ρ w _ QQ hn hs0 ha g1 g2 (g3.trans hdf) hp hq
theorem zw1 {Y:Ty} (hY:TyOk P Y) {g:Ctx} (hcall:zi E P g.call) {ops:Array Oper} (hsel:Region.noSelect ops=true) {hS:H} {k:K1} {i:Nat} {r:List (Bool × Nat)} {l:List (Bool × OI)} {fr:Fr} {h:H} {fa:Fa}
  (hl:zZ Y N ops.toList ((false,i)::r)=some l) (hfa:FaOk E fa) (hk:z3 hS l g fr h fa k=0) :
  ∃ fr' h' fa',k fr' h' fa'=0/\FaOk E fa'/\∀ (L:Array Bool),jo ops r (L.setIfInBounds i true)=true->∀ {DS:List Deferred} ρ0 ρ w a QQ,hS.n.toNat<=h.n.toNat->yr hS h->Sat E ρ0 hS w->(∀ p:Ev.P,p.toNat<hS.n.toNat->ρ p=ρ0 p)->Sat E ρ h w->zw E ρ h.n.toNat fr (a:Act).tmps->N<=a.tmps.size->a.defers=DS ->
   (∀ c a w,¬ QQ (.panic c) a w)->(∀ a' w',At E N DS ρ h w fr' h' a' w'->QQ .normal a' w')->wpOp P ops QQ i (fun a' w'=>Sat E ρ0 hS w'/\wpAnyH P .any ops QQ (Sat E ρ0 hS) r.length (L.setIfInBounds i true) a' w') a w:=by
 obtain⟨o,x,l2,ho,hx,hl2,rfl⟩:=yf hl
 rw[zX,Array.getElem?_toList]at ho
 obtain⟨fr1,h1,fa1,hk1,hfa1,hgd,hstep⟩:=hop_one hY hcall hx hfa (show OI.go (hOp hS) (ziU hS) x g fr h fa (fun fr h fa=>z3 hS l2 g fr h fa k)=0 from hk)
 obtain⟨fr2,h2,fa2,hk2,hfa2,hr2⟩:=zay hY hcall hsel r l2 fr1 h1 fa1 hl2 hfa1 hk1
 refine⟨fr2,h2,fa2,hk2,hfa2,fun L hB {DS} ρ0 ρ w a QQ hn hke hs0 ha hs hf hN hdf hp hq=>?_⟩
 unfold wpOp
 simp only[ho]
 rw[if_pos (by simp[Region.wanted,hgd])]
 refine .inl (jB ?_ (hstep ρ w a QQ (fun p o hp=>(hs0.bd p o hp).1) hn hke hs hf hN hdf))
 rintro a1 w1 ⟨⟨ρ1,f1,n1,d1,s1,x1⟩,hke1⟩
 have ha1:∀ p:Ev.P,p.toNat<hS.n.toNat->ρ1 p=ρ0 p:=fun p hp=>by rw[x1.agree p (by omega),ha p hp]
 have hs1:Sat E ρ0 hS w1:=y6 hs0 s1 hke1 ha1
 exact⟨hs1,hr2 _ hB ρ0 ρ1 w1 a1 QQ (Nat.le_trans hn x1.len) hke1 hs1 ha1 s1 f1 n1 d1 hp (fun a' w' hA=>hq a' w' (hA.trans x1))⟩
theorem zAR {Y:Ty} (hY:TyOk P Y) (hm:P.follows .mixedOrders=true) {g:Ctx} (hcall:zi E P g.call) {ops:Array Oper} {bs pre:List Nat} {xs ys:List (Bool × Nat)} (hB:zfN ops pre xs ys=true)
  {p x:List (Bool × OI)} (h1:zZ Y N ops.toList (pre.map (fun i=>(true,i)))=some p) (h2:zZ Y N ops.toList xs=some x) {fr:Fr} {h:H} {fa:Fa} {k:K2} (hfa:FaOk E fa)
  (hk:zcN fr (err g 64) (bs.map zp) h (fun hS=>z3 hS p g fr h fa (fun fr h fa=>z3 hS x g fr h fa (fun fr h fa=>k .normal fr h fa)))=0):∃ ae fr' h' fa',k ae fr' h' fa'=0/\FaOk E fa':=by
 unfold zfN at hB
 simp only[Bool.and_eq_true,decide_eq_true_eq]at hB
 obtain⟨hS,hk,_⟩:=za8 (zl _ _) bs h _ hk
 obtain⟨fr1,fa1,hk1,hfa1,_⟩:=zeM hY hB.1.1.1 pre p fr fa h1 hfa hk
 obtain⟨fr2,h2',fa2,hka,hfa2,_⟩:=zay hY hcall hB.1.1.1 xs x fr1 h fa1 h2 hfa1 hk1
 exact⟨.normal,fr2,h2',fa2,hka,hfa2⟩
theorem zAQ {Y:Ty} (hY:TyOk P Y) (hm:P.follows .mixedOrders=true) {g:Ctx} (hcall:zi E P g.call) {id:Nat} {ops:Array Oper} {bs pre:List Nat} {xs ys:List (Bool × Nat)} (hB:zfN ops pre xs ys=true)
  {p x y:List (Bool × OI)} (h1:zZ Y N ops.toList (pre.map (fun i=>(true,i)))=some p) (h2:zZ Y N ops.toList xs=some x) (h3:zZ Y N ops.toList ys=some y) {fr:Fr} {h:H} {fa:Fa} {k:K2} (hfa:FaOk E fa)
  (hk:zcN fr (err g 64) (bs.map zp) h (fun hS=>z3 hS p g fr h fa (fun fr h fa=>zjk true (fun l=>z3 hS l g fr h fa (fun fr h fa=>k .normal fr h fa)) [x,y]))=0)
  {DS:List Deferred} {ρ:Rho} {w:World} {a:Act} {QQ:Exit->Act->World->Prop} (hs:Sat E ρ h w) (hf:zw E ρ h.n.toNat fr a.tmps) (hN:N<=a.tmps.size) (hd:a.defers=DS)
  (hQ:∀ fr' h' fa' a' w',k .normal fr' h' fa'=0->FaOk E fa'->At E N DS ρ h w fr' h' a' w'->QQ .normal a' w'):(Code.region id ops true).wp P QQ a w:=by
 unfold zfN at hB
 simp only[Bool.and_eq_true,decide_eq_true_eq]at hB
 obtain⟨⟨⟨hsel,hl1⟩,hl2⟩,hB⟩:=hB
 split at hB
 rotate_left
 ·cases hB
 rename_i L i r j s hL
 simp only[Bool.and_eq_true,decide_eq_true_eq]at hB
 obtain⟨⟨hrd,hg1⟩,hg2⟩:=hB
 obtain⟨hS,hk,hSn,hke,hSat⟩:=za8 (zl _ _) bs h _ hk
 obtain⟨fr1,fa1,hk1,hfa1,hr⟩:=zeM hY hsel pre p fr fa h1 hfa hk
 obtain⟨ka,kb⟩:=sel2 hk1
 obtain⟨fr2,h2',fa2,hka,hfa2,ra⟩:=zw1 hY hcall hsel h2 hfa1 ka
 obtain⟨fr3,h3',fa3,hkb,hfa3,rb⟩:=zw1 hY hcall hsel h3 hfa1 kb
 have hs1:Sat E ρ h { w with drawn:=w.drawn+1 }:=⟨hs.obj,hs.inj,hs.bd⟩
 have hx1:Ext ρ h w ρ h { w with drawn:=w.drawn+1 }:=jG hs
 have hsS:=hSat E ρ _ _ hf hs1
 refine Go.wp_mono (Q:=fun e a' w'=>e=.normal/\QQ .normal a' w') (wp_region_held (S:=Sat E ρ hS) hm ?_) (fun e a' w' ⟨he,hA⟩=>by rw[he];exact hA)
 have hp:∀ c (a:Act) (w:World),¬ (fun e a' w'=>e=Exit.normal/\QQ .normal a' w') (.panic c) a w:=fun c a w hh=>by cases hh.1
 rw[show ops.size=pre.length+(r.length+1) from by simp only[List.length_cons]at hl1;omega]
 refine hr _ L (r.length+1) (by rw[show pre.length+(r.length+1)=ops.size from by simp only[List.length_cons]at hl1;omega];exact hL) (DS:=DS) ρ ρ _ a _ (by rw[hSn];exact Nat.le_refl _) hsS (fun _ _=>rfl) hf hN hd hp fun a1 f1 n1 d1=>?_
 refine wpAnyH_all hrd (by simp) fun q hq=>?_
 rcases List.mem_cons.1 hq with rfl | hq
 ·exact ra L hg1 (DS:=DS) ρ ρ _ a1 _ (by rw[hSn];exact Nat.le_refl _) hke hsS (fun _ _=>rfl) hs1 f1 n1 d1 hp fun a' w' hA=>⟨rfl,hQ _ _ _ a' w' hka hfa2 (hA.trans hx1)⟩
 ·have:q=j:=by simpa using hq
  subst this
  have:=rb L hg2 (DS:=DS) ρ ρ _ a1 (fun e a' w'=>e=Exit.normal/\QQ .normal a' w') (by rw[hSn];exact Nat.le_refl _) hke hsS (fun _ _=>rfl) hs1 f1 n1 d1 hp fun a' w' hA=>⟨rfl,hQ _ _ _ a' w' hkb hfa3 (hA.trans hx1)⟩
  rw[show r.length=s.length from by simp only[List.length_cons]at hl1 hl2;omega]
  exact this
end Go.Ev
end
set_option linter.unusedSimpArgs false
set_option linter.unusedVariables false
noncomputable section
namespace Go.Ev
open Go
variable {E:Env} {P:Program} {N:Nat}
theorem ze9 {a b:Nat} (h:zem a b=0):a=0/\b=0:=by
 cases a with
 | zero=>exact⟨rfl,h⟩
 | succ n=>cases h
theorem zuC {α:Type} {f:α->Nat}:∀ {l:List α},allT f l=0->∀ x∈l,f x=0
 | [],_,x,hx=>by cases hx
 | y::r,h,x,hx=>by
  obtain⟨h1,h2⟩:=ze9 (show zem (f y) (allT f r)=0 from h)
  rcases List.mem_cons.1 hx with rfl | hx
  ·exact h1
  ·exact zuC h2 x hx
theorem zmB {α:Type} {f:α->Nat} {l:List α} (h:zjk true f l=0):∀ x∈l,f x=0:=zuC h
theorem ztP {α:Type} (x:α) (t:List α):∀ s:List α,s ++ x::t∈insP x (s ++ t)
 | []=>by cases t <;> simp[insP]
 | a::s=>by
  show a::(s ++ x::t)∈insP x (a::(s ++ t))
  unfold insP
  exact List.mem_cons_of_mem _ (List.mem_map.2 ⟨_,ztP x t s,rfl⟩)
theorem zfx {α:Type}:∀ {l l':List α},l'.Perm l->l'∈zdY l
 | [],l',h=>by rw[List.perm_nil.1 h];simp[zdY]
 | a::r,l',h=>by
  have ha:a∈l':=h.symm.subset (List.mem_cons_self ..)
  obtain⟨s,t,rfl⟩:=List.append_of_mem ha
  have h2:(s ++ t).Perm r:=(List.perm_middle.symm.trans h).cons_inv
  unfold zdY
  exact List.mem_flatMap.2 ⟨_,zfx h2,ztP a t s⟩
def RunsN (E:Env) (P:Program) (N:Nat) (c:Code) (fr:Fr) (h:H) (k:K2):Prop:=
 ∀ {DS:List Deferred} ρ w a QQ,Sat E ρ h w->zw E ρ h.n.toNat fr (a:Act).tmps->N<=a.tmps.size->a.defers=DS ->
  (∀ ae fr' h' fa' a' w',k ae fr' h' fa'=0->FaOk E fa'->At E N DS ρ h w fr' h' a' w'->QQ (AE.exit' ae) a' w')->c.wp P QQ a w
theorem sat_fix {ρ:Rho} {h:H} {w:World} (hs:Sat E ρ h w) {id:Ev.P} {l:List (V × V)} (ho:h.t.get id=some (.map l)) (hm:zaI h id=true) :
  ∃ l'∈zdY l,Sat E ρ (h.put id (.x (.mx l'))) w/\Ext ρ h w ρ (h.put id (.x (.mx l'))) w:=by
 obtain⟨es,e1,e2,e3⟩:=hs.obj id _ ho
 obtain⟨l',hpm,e2⟩:=zcu e2 l rfl
 have hb:=(hs.bd id _ ho).2
 obtain⟨q1,q2⟩:=zdk E (w':=w) hs ho rfl (yD h id hm) (.x (.mx l')) (fun p hp=>hb p (hpm.subset hp)) ⟨es,e1,e2,e3⟩ (fun b _=>rfl) rfl rfl rfl rfl
 exact⟨l',zfx hpm,q1,q2⟩
theorem zAW {h:H} {v:Option V} {k:H->Nat} (hk:fixT true h v k=0) {ρ:Rho} {w:World} (hs:Sat E ρ h w) :
  ∃ h1,k h1=0/\Sat E ρ h1 w/\Ext ρ h w ρ h1 w:=by
 unfold fixT at hk
 split at hk
 ·rename_i id
  rw[zJ]at hk
  split at hk
  ·rename_i l ho
   rw[yG]at hk
   split at hk
   ·exact⟨h,hk,hs,hs.refl E⟩
   ·obtain⟨hm,hk⟩:=zn hk (by simp)
    obtain⟨l',hl,q1,q2⟩:=sat_fix hs ho hm
    have:=zmB hk l' hl
    rw[y9]at this
    exact⟨_,this,q1,q2⟩
  ·exact⟨h,hk,hs,hs.refl E⟩
 ·exact⟨h,hk,hs,hs.refl E⟩
theorem zdI {Y:Ty} {all:List Oper} {o:Oper} {r:List Oper} {l:List ION} (h:zaS Y N all (o::r)=some l):∃ x l',zed Y N all o=some x/\zaS Y N all r=some l'/\l=x::l':=by
 simp only[zaS]at h
 split at h
 ·rename_i a b h1 h2
  simp at h;subst h
  exact⟨a,b,h1,h2,rfl⟩
 ·simp at h
theorem nOp_run {Y:Ty} (hY:TyOk P Y) {ops:Array Oper} {o:Oper} {x:ION} (hx:zed Y N ops.toList o=some x) {c:Ctx} (hcall:zi E P c.call) {fr:Fr} {h:H} {fa:Fa} (hfa:FaOk E fa) {k:K1}
  (hk:nOp true x c fr h fa k=0) {DS:List Deferred} {ρ:Rho} {w:World} {a:Act} {QQ:Exit->Act->World->Prop} (hs:Sat E ρ h w) (hf:zw E ρ h.n.toNat fr a.tmps) (hN:N<=a.tmps.size) (hd:a.defers=DS) :
  One P ops o a w (fun a' w'=>∃ fr' h' fa',k fr' h' fa'=0/\FaOk E fa'/\At E N DS ρ h w fr' h' a' w') QQ:=by
 have plain:∀ {x:OI} {h1:H},jQ Y N ops.toList o=some x->OI.go zam jd x c fr h1 fa k=0->Sat E ρ h1 w->Ext ρ h w ρ h1 w ->
   One P ops o a w (fun a' w'=>∃ fr' h' fa',k fr' h' fa'=0/\FaOk E fa'/\At E N DS ρ h w fr' h' a' w') QQ:=by
  intro x h1 hx hk s1 x1
  obtain⟨fr',h',fa',hk',hfa',hr⟩:=zaF hY hx hcall hfa hk
  rcases hr ρ w a QQ s1 (hf.mono x1.len x1.agree) hN hd with ⟨hw,hwp⟩ | ⟨hw,hA⟩
  ·exact .inl ⟨hw,jB (fun a' w' hA=>⟨fr',h',fa',hk',hfa',hA.trans x1⟩) hwp⟩
  ·exact .inr ⟨hw,fr',h',fa',hk',hfa',hA.trans x1⟩
 unfold zed at hx
 split at hx
 ·rename_i i hop hgd
  split at hx
  ·rename_i d i' hdst hi
   simp at hx;subst hx
   have hk:nNxt true d i' c fr h fa k=0:=hk
   unfold nNxt at hk
   have want:Region.wanted o (yielded ops a.tmps)=true:=by simp[Region.wanted,hgd]
   refine .inl ⟨want,?_⟩
   obtain⟨id,s,hv,⟨a',b',c',ho,hz⟩ | ⟨m,l,ho,hx,hk⟩⟩:=zeP hk (by simp)
   ·obtain⟨g1,_⟩:=zq hf hi hv
    have ho1:w.heap[(ρ id).b]? = some (.mapIter none a' b'.toArray c'):=hs.obj id _ ho
    obtain⟨fr',h1,h2⟩:=zP hfa hdst hz
    obtain⟨q1,q2,q3⟩:=h2 ρ _ a hf hN (show (V.tup [.b false]).bd _ from ⟨trivial,trivial⟩)
    unfold Oper.wp
    have hrun:(execOp a.eval o).run P w=.ok (.value (V.γ E ρ (.tup [.b false]))) w:=by
     simp[execOp,hop,g1,V.γ,γL,Instr.next,getObj,Sem.run_bind,Sem.run,ho1,Result.andThen]
    rw[hrun]
    exact⟨fr',h,fa,h1,hfa,ρ,q1,q2,q3.trans hd,hs,hs.refl E⟩
   ·obtain⟨hm,hk⟩:=zn hk (by simp)
    obtain⟨g1,_⟩:=zq hf hi hv
    unfold Oper.wp
    rcases zmt (P:=P) hs ho hx hm o.type with ⟨h0,hrun⟩ | ⟨p,hp,w',hrun,s1,x1,b1⟩
    ·rw[h0]at hk
     obtain⟨fr',h1,h2⟩:=zP hfa hdst (show yI d fa (.tup [.b false]) fr (fun fr=>k fr h fa)=0 from hk)
     obtain⟨q1,q2,q3⟩:=h2 ρ _ a hf hN (show (V.tup [.b false]).bd _ from ⟨trivial,trivial⟩)
     have hrun:(execOp a.eval o).run P w=.ok (.value (V.γ E ρ (.tup [.b false]))) w:=by
      simp[execOp,hop,g1,V.γ,γL,hrun]
     rw[hrun]
     exact⟨fr',h,fa,h1,hfa,ρ,q1,q2,q3.trans hd,hs,hs.refl E⟩
    ·have hk1:zfa h id m l s p (fun v h=>yI d fa v fr (fun fr=>k fr h fa))=0:=by
      generalize zbi s l 0=q at hk hp
      cases q with
      | nil=>cases hp
      | cons p0 q=>exact zmB (show zjk true _ (p0::q)=0 from hk) p hp
     unfold zfa at hk1
     rw[y9]at hk1
     obtain⟨fr',h1,h2⟩:=zP hfa hdst hk1
     obtain⟨q1,q2,q3⟩:=h2 ρ _ a (hf.mono x1.len x1.agree) hN (bd_mono x1.len _ b1)
     have hrun:(execOp a.eval o).run P w=.ok (.value (V.γ E ρ (.tup [.b true,p.2.1,p.2.2]))) w':=by
      simp[execOp,hop,g1,V.γ,hrun]
     rw[hrun]
     exact⟨fr',_,fa,h1,hfa,ρ,q1,q2,q3.trans hd,s1,x1⟩
  ·simp at hx
 ·rename_i t m hop
  split at hx
  ·rename_i m' x' hm hx'
   simp at hx;subst hx
   obtain⟨h1,hk1,s1,x1⟩:=zAW (show fixT true h (od m' fr) (fun h=>OI.go zam jd x' c fr h fa k)=0 from hk) hs
   exact plain hx' hk1 s1 x1
  ·simp at hx
 ·split at hx
  ·rename_i x' hx'
   simp at hx;subst hx
   exact plain hx' hk hs (hs.refl E)
  ·simp at hx
theorem ztK {Y:Ty} (hY:TyOk P Y) {ops:Array Oper} {c:Ctx} (hcall:zi E P c.call) {k:K1} {QQ:Exit->Act->World->Prop}:∀ (l:List Oper) (l':List ION) (fr:Fr) (h:H) (fa:Fa),zaS Y N ops.toList l=some l'->FaOk E fa->zlR true l' c fr h fa k=0 ->
  ∀ (DS:List Deferred) ρ w a,Sat E ρ h w->zw E ρ h.n.toNat fr (a:Act).tmps->N<=a.tmps.size->a.defers=DS ->
   (∀ fr' h' fa' a' w',k fr' h' fa'=0->FaOk E fa'->At E N DS ρ h w fr' h' a' w'->QQ .normal a' w')->wpList P ops QQ l a w
 | [],l',fr,h,fa,hl,hfa,hk=>by
  simp[zaS]at hl;subst hl
  exact fun DS ρ w a hs hf hN hd hq=>hq fr h fa a w hk hfa ⟨ρ,hf,hN,hd,hs,hs.refl E⟩
 | o::r,l',fr,h,fa,hl,hfa,hk=>by
  obtain⟨x,l2,hx,hl2,rfl⟩:=zdI hl
  have hk:nOp true x c fr h fa (fun fr h fa=>zlR true l2 c fr h fa k)=0:=hk
  intro DS ρ w a hs hf hN hd hq
  have next:∀ a1 w1,(∃ fr' h' fa',zlR true l2 c fr' h' fa' k=0/\FaOk E fa'/\At E N DS ρ h w fr' h' a1 w1)->wpList P ops QQ r a1 w1:=by
   rintro a1 w1 ⟨fr1,h1,fa1,hk1,hfa1,ρ1,f1,n1,d1,s1,x1⟩
   exact ztK hY hcall r l2 fr1 h1 fa1 hl2 hfa1 hk1 DS ρ1 w1 a1 s1 f1 n1 d1 (fun fr' h' fa' a' w' hk' hfa' hA=>hq fr' h' fa' a' w' hk' hfa' (hA.trans x1))
  unfold wpList
  rcases nOp_run hY hx hcall hfa hk (QQ:=QQ) hs hf hN hd with ⟨hw,hwp⟩ | ⟨hw,hA⟩
  ·rw[if_pos hw]
   exact .inl (jB next hwp)
  ·rw[if_neg (by simp[hw])]
   exact next _ _ hA
theorem zx8 {Y:Ty} (hY:TyOk P Y) (hm:P.follows .mixedOrders=true) {dr:Nat->Option Dr} {g:Ctx} (hcall:zi E P g.call):∀ (c:Code) (fr:Fr) (h:H) (fa:Fa) (k:K2),zH dr c=true->FaOk E fa ->
  jq true (yR Y N dr c) g fr h fa k=0->RunsN E P N c fr h k:=by
 have det:∀ (c:Code) (fr:Fr) (h:H) (fa:Fa) (k:K2),zH dr c=true->FaOk E fa->jp (yo Y N dr c) g fr h fa k=0->RunsN E P N c fr h k:=by
  intro c fr h fa k hB hfa hk
  obtain⟨ae,fr1,h1,fa1,hk1,hfa1,r1⟩:=yF hY hm hcall c fr h fa k hB hfa hk
  intro DS ρ w a QQ hs hf hN hd hQ
  exact r1 ρ w a QQ hs hf hN hd fun a' w' hA=>hQ ae fr1 h1 fa1 a' w' hk1 hfa1 hA
 intro c
 induction c with
 | skip=>exact fun fr h fa k hB hfa hk=>det _ fr h fa k hB hfa hk
 | ret=>exact fun fr h fa k hB hfa hk=>det _ fr h fa k hB hfa hk
 | exit i=>exact fun fr h fa k hB hfa hk=>det _ fr h fa k hB hfa hk
 | label i=>exact fun fr h fa k hB hfa hk=>det _ fr h fa k hB hfa hk
 | goto i=>exact fun fr h fa k hB hfa hk=>det _ fr h fa k hB hfa hk
 | refuse i=>exact fun fr h fa k hB hfa hk=>det _ fr h fa k hB hfa hk
 | rangeFunc f ps x y _ _=>exact fun fr h fa k hB hfa hk=>det _ fr h fa k hB hfa hk
 | scope x ih=>
  intro fr h fa k hB hfa hk DS ρ w a QQ hs hf hN hd hQ
  exact wp_scope_straight (ih fr h fa k (by simpa only[zH] using hB) hfa hk ρ w a _ hs hf hN hd fun ae fr' h' fa' a' w' h1 h2 h3=>by
   have:=hQ ae fr' h' fa' a' w' h1 h2 h3
   cases ae <;> exact this)
 | seq x y ihx ihy=>
  intro fr h fa k hB hfa hk DS ρ w a QQ hs hf hN hd hQ
  simp only[zH,Bool.and_eq_true]at hB
  refine wp_seq (ihx fr h fa _ hB.1 hfa (show jq true (yR Y N dr x) g fr h fa (fun e fr h fa=>je e (jq true (yR Y N dr y) g fr h fa k) (k .ret fr h fa) (fun i=>k (.exit i) fr h fa))=0 from hk) ρ w a _ hs hf hN hd ?_)
  intro ae fr1 h1 fa1 a1 w1 hk1 hfa1 hA
  cases ae with
  | normal=>
   obtain⟨ρ1,f1,n1,d1,s1,x1⟩:=hA
   exact ihy fr1 h1 fa1 k hB.2 hfa1 hk1 ρ1 w1 a1 QQ s1 f1 n1 d1 fun ae fr' h' fa' a' w' h1 h2 h3=>hQ ae fr' h' fa' a' w' h1 h2 (h3.trans x1)
  | ret=>exact hQ .ret fr1 h1 fa1 a1 w1 hk1 hfa1 hA
  | exit i=>exact hQ (.exit i) fr1 h1 fa1 a1 w1 hk1 hfa1 hA
 | cond o x y ihx ihy=>
  intro fr h fa k hB hfa hk
  cases o with
  | tmp t=>
   intro DS ρ w a QQ hs hf hN hd hQ
   simp only[zH,Bool.and_eq_true]at hB
   have hk:way fa (fr.get (zp t)) (fun b fa=>bc b (jq true (yR Y N dr x) g fr h fa k) (jq true (yR Y N dr y) g fr h fa k)) (err g 44)=0:=hk
   obtain⟨v,b,fa',hv,hb,hfa',hk⟩:=zcR hk (zl _ _) hfa (fun _=>⟨0,0⟩)
   have hev:a.eval (.tmp t)=.bool b:=by
    have h1:=(hf t v hv).1
    have h2:v.γ E ρ=.bool b:=by cases v <;> simp[V.γ]at hb ⊢ <;> exact hb
    simp[Act.eval,h1,h2]
   cases b with
   | true=>exact wp_cond_true hev (ihx fr h fa' k hB.1 hfa' hk ρ w a QQ hs hf hN hd hQ)
   | false=>exact wp_cond_false hev (ihy fr h fa' k hB.2 hfa' hk ρ w a QQ hs hf hN hd hQ)
  | _=>exact det _ fr h fa k hB hfa hk
 | block i x ih=>
  intro fr h fa k hB hfa hk DS ρ w a QQ hs hf hN hd hQ
  simp only[zH]at hB
  refine wp_block (ih fr h fa _ hB hfa (show jq true (yR Y N dr x) g fr h fa (fun e fr h fa=>je e (k .normal fr h fa) (k .ret fr h fa) (fun j=>bc (Nat.beq j i) (k .normal fr h fa) (k (.exit j) fr h fa)))=0 from hk) ρ w a _ hs hf hN hd ?_)
  intro ae fr1 h1 fa1 a1 w1 hk1 hfa1 hA
  cases ae with
  | normal=>exact hQ .normal fr1 h1 fa1 a1 w1 hk1 hfa1 hA
  | ret=>exact hQ .ret fr1 h1 fa1 a1 w1 hk1 hfa1 hA
  | exit j=>
   have hk2:bc (Nat.beq j i) (k .normal fr1 h1 fa1) (k (.exit j) fr1 h1 fa1)=0:=hk1
   show Exit.inBlock i _ (.exit j) a1 w1
   cases hj:Nat.beq j i with
   | true=>
    rw[hj]at hk2
    have hj:j=i:=by simpa using hj
    subst hj
    simp only[Exit.inBlock,if_true]
    exact hQ .normal fr1 h1 fa1 a1 w1 hk2 hfa1 hA
   | false=>
    rw[hj]at hk2
    have hj:¬ j=i:=by
     intro e;subst e;simp at hj
    simp only[Exit.inBlock,hj,if_false]
    exact hQ (.exit j) fr1 h1 fa1 a1 w1 hk2 hfa1 hA
 | loop x ih=>
  intro fr h fa k hB hfa hk DS ρ w a QQ hs hf hN hd hQ
  simp only[zH]at hB
  have key:∀ n fr h fa,FaOk E fa->zfA (jq true (yR Y N dr x)) n g fr h fa k=0->∀ ρ w (a:Act),Sat E ρ h w->zw E ρ h.n.toNat fr a.tmps->N<=a.tmps.size->a.defers=DS ->
    (∀ ae fr' h' fa' a' w',k ae fr' h' fa'=0->FaOk E fa'->At E N DS ρ h w fr' h' a' w'->QQ (AE.exit' ae) a' w')->Code.rounds P x QQ n a w:=by
   intro n
   induction n with
   | zero=>intro fr h fa hfa hk;exact absurd hk (zl _ _)
   | succ n ihn=>
    intro fr h fa hfa hk ρ w a hs hf hN hd hQ
    rw[rounds_succ]
    refine ih fr h fa _ hB hfa (show jq true (yR Y N dr x) g fr h fa (fun e fr h fa=>je e (zfA (jq true (yR Y N dr x)) n g fr h fa k) (k .ret fr h fa) (fun i=>k (.exit i) fr h fa))=0 from hk) ρ w a _ hs hf hN hd ?_
    intro ae fr1 h1 fa1 a1 w1 hk1 hfa1 hA
    cases ae with
    | normal=>
     obtain⟨ρ1,f1,n1,d1,s1,x1⟩:=hA
     exact ihn fr1 h1 fa1 hfa1 hk1 ρ1 w1 a1 s1 f1 n1 d1 fun ae fr' h' fa' a' w' h1 h2 h3=>hQ ae fr' h' fa' a' w' h1 h2 (h3.trans x1)
    | ret=>exact hQ .ret fr1 h1 fa1 a1 w1 hk1 hfa1 hA
    | exit i=>exact hQ (.exit i) fr1 h1 fa1 a1 w1 hk1 hfa1 hA
  exact wp_loop_rounds _ (key g.fuel fr h fa hfa hk ρ w a hs hf hN hd hQ)
 | region id ops dw=>
  intro fr h fa k hB hfa hk
  cases dw with
  | true=>
   have hk:jq true (match dr id with
  | some (.fork bs pre xs ys)=>match zZ Y N ops.toList (pre.map (fun i=>(true,i))),zZ Y N ops.toList xs,zZ Y N ops.toList ys with
   | some p,some a,some b=>.fork (bs.map zp) p a b
   | _,_,_=>.bad
  | _=>.det (yo Y N dr (.region id ops true))) g fr h fa k=0:=hk
   split at hk
   ·rename_i bs pre xs ys hdr
    split at hk
    ·rename_i p x y h1 h2 h3
     intro DS ρ w a QQ hs hf hN hd hQ
     have hB:zfN ops pre xs ys=true:=by
      simp only[zH,hdr]at hB;exact hB
     exact zAQ hY hm hcall hB h1 h2 h3 hfa (show zcN fr (err g 64) (bs.map zp) h (fun hS=>z3 hS p g fr h fa (fun fr h fa=>zjk true (fun l=>z3 hS l g fr h fa (fun fr h fa=>k .normal fr h fa)) [x,y]))=0 from hk) hs hf hN hd fun fr' h' fa' a' w' h1 h2 h3=>hQ .normal fr' h' fa' a' w' h1 h2 h3
    ·exact fun {DS}=>absurd hk (zl _ _)
   ·exact fun {DS}=>det _ fr h fa k hB hfa hk
  | false=>
   intro DS ρ w a QQ hs hf hN hd hQ
   simp only[yR]at hk
   split at hk
   ·rename_i l hl
    exact wp_region_list (ztK hY hcall _ _ fr h fa hl hfa (show zlR true l g fr h fa (fun fr h fa=>k .normal fr h fa)=0 from hk) DS ρ w a hs hf hN hd fun fr' h' fa' a' w' h1 h2 h3=>hQ .normal fr' h' fa' a' w' h1 h2 h3)
   ·exact absurd hk (zl _ _)
end Go.Ev
end
set_option linter.unusedSimpArgs false
set_option linter.unusedVariables false
noncomputable section
namespace Go.Ev
open Go
variable {E:Env} {P:Program} {N:Nat}
theorem fnN_run {Y:Ty} (hY:TyOk P Y) (hm:P.follows .mixedOrders=true) {call:zy} (hcall:zi E P call) {dr:Nat->Option Dr} {fuel F:Nat} {f:Func} {i:IFnN} (hfn:P.funcs[F]? = some f)
  (hi:cFnN Y dr f=some i) (hdr:∀ c,f.body=some c->zH dr c=true) {l:List V} {h:H} {fa:Fa} {k:K} (hk:fnN true i.body i.res call F fuel l h fa k=0) (hfa:FaOk E fa) (ρ:Rho) (w:World) (hb:bdL h.n.toNat l) (hs:Sat E ρ h w) :
  Calls P F (γL E ρ l).toArray w fun e w'=>∃ v h' fa' ρ',k v h' fa'=0/\FaOk E fa'/\e=.returned (v.γ E ρ')/\Sat E ρ' h' w'/\Ext ρ h w ρ' h' w'/\v.bd h'.n.toNat:=by
 unfold cFnN at hi
 split at hi
 rotate_left
 ·simp at hi
 rename_i c rs hc hrs
 simp at hi;subst hi
 obtain⟨fr,hk,hfr⟩:=jH hk
 refine calls_of_wp hfn hc ?_
 have hf:zw E ρ h.n.toNat fr ((γL E ρ l).toArray ++ Array.replicate (f.ntmps - (γL E ρ l).toArray.size) undef):=by
  intro t v hv
  have h2:=hfr t v hv
  have ht:t<l.length:=(List.getElem?_eq_some_iff.1 h2).1
  refine⟨?_,(yg _ l).1 hb v (List.mem_of_getElem? h2)⟩
  rw[Array.getElem?_append_left (by simp[γL_length];exact ht)]
  simp[γL_get,h2]
 refine zx8 hY hm (g:=⟨call,F,fuel⟩) hcall c fr h fa _ (hdr c hc) hfa hk ρ w { tmps:=(γL E ρ l).toArray ++ Array.replicate (f.ntmps - (γL E ρ l).toArray.size) undef,defers:=[] } _ hs hf (by simp[γL_length];omega) rfl ?_
 rintro ae fr1 h1 fa1 a1 w1 hk1 hfa1 ⟨ρ1,f1,n1,d1,s1,x1⟩
 have fin:za0 rs fr1 h1 (fun v=>k v h1 fa1) (Nat.succ (Nat.add (Nat.mul F 100) 49))=0 ->
   bodyPost P f (fun e w'=>∃ v h' fa' ρ',k v h' fa'=0/\FaOk E fa'/\e=.returned (v.γ E ρ')/\Sat E ρ' h' w'/\Ext ρ h w ρ' h' w'/\v.bd h'.n.toNat) .ret a1 w1:=by
  intro hr
  obtain⟨vs,hvs,hr⟩:=zA (show oc (zbv fr1 h1 rs) _ _=0 from hr) (by simp)
  have hv:∃ v,k v h1 fa1=0/\(∀ n,bdL n vs->v.bd n)/\∀ ρ,(if h:(γL E ρ vs).toArray.size=1 then (γL E ρ vs).toArray[0] else .tuple (γL E ρ vs).toArray)=v.γ E ρ:=by
   match vs,hr with
   | [],hr=>exact⟨.tup [],hr,fun n hn=>hn,fun ρ=>rfl⟩
   | [x],hr=>exact⟨x,hr,fun n hn=>hn.1,fun ρ=>by simp[γL]⟩
   | x::y::r,hr=>exact⟨.tup (x::y::r),hr,fun n hn=>hn,fun ρ=>by simp[γL,V.γ]⟩
  obtain⟨v,hkv,hvb,hvγ⟩:=hv
  obtain⟨e1,b1⟩:=js hY hrs s1 f1 hvs
  rw[hvγ]at e1
  exact⟨d1,_,e1,v,h1,fa1,ρ1,hkv,hfa1,rfl,s1,x1,hvb _ b1⟩
 cases ae with
 | normal=>exact fin hk1
 | ret=>exact fin hk1
 | exit i=>exact absurd (show Nat.succ _=0 from hk1) (by simp)
theorem rmV_ok {p:V × V}:∀ {l s:List (V × V)},rmV p l=some s->l.Perm (p::s)
 | [],s,h=>by cases h
 | q::r,s,h=>by
  unfold rmV at h
  rw[yG]at h
  split at h
  ·rename_i hq
   simp only[Bool.and_eq_true]at hq
   simp at h;subst h
   have:p=q:=Prod.ext (V.beq_ok hq.1) (V.beq_ok hq.2)
   rw[this]
  ·split at h
   ·rename_i t ht
    simp at h;subst h
    exact((rmV_ok ht).cons q).trans (List.Perm.swap ..)
   ·simp at h
theorem ztB:∀ {l m:List (V × V)},ztC l m=true->l.Perm m
 | [],[],_=>List.Perm.refl _
 | [],_::_,h=>by simp[ztC]at h
 | a::r,m,h=>by
  unfold ztC at h
  split at h
  ·rename_i s hs
   exact((ztB h).cons a).trans (rmV_ok hs).symm
  ·simp at h
def zgd (o o2:O):Prop:=o2=o\/∃ l l',o=.map l/\o2=.x (.mx l')/\l'.Perm l
theorem chkO_ok {x y:Option O} (h:chkO x y=true) {o:O} (hx:x=some o):∃ o2,y=some o2/\zgd o o2:=by
 subst hx
 unfold chkO at h
 split at h
 ·rename_i e;cases e
 ·rename_i l l' e1
  cases e1
  exact⟨_,rfl,.inr ⟨l,l',rfl,rfl,ztB h⟩⟩
 ·rename_i a b _ e1
  cases e1
  exact⟨_,rfl,.inl (O.beq_ok h).symm⟩
 ·cases h
theorem zgd.mine {o o2:O} (t:zgd o o2):o2.mine=o.mine:=by
 rcases t with rfl | ⟨l,l',rfl,rfl,_⟩ <;> rfl
theorem zgd.live {o o2:O} (t:zgd o o2):o2.live=o.live:=by
 rcases t with rfl | ⟨l,l',rfl,rfl,_⟩ <;> rfl
theorem zgd.bd {o o2:O} (t:zgd o o2) {n:Nat} (h:o2.bd n):o.bd n:=by
 rcases t with rfl | ⟨l,l',rfl,rfl,hp⟩
 ·exact h
 ·exact fun p hm=>h p (hp.mem_iff.2 hm)
theorem zgd.is {o o2:O} (t:zgd o o2) {ρ:Rho} {L:Pl} {hp:Array Obj} (h:o2.Is E ρ L hp):o.Is E ρ L hp:=by
 rcases t with rfl | ⟨l,l',rfl,rfl,hpm⟩
 ·exact h
 ·obtain⟨es,e1,e2,e3⟩:=h
  exact⟨es,e1,by rw[e2];exact hpm.map _,e3⟩
theorem zfp:∀ (a b:PT O),zfq a b=true->∀ (p:Ev.P) (o:O),a.get p=some o->∃ o2,b.get p=some o2/\zgd o o2
 | .e,b,h,p,o,hp=>by rw[PT.get_e]at hp;simp at hp
 | .n v l r,.e,h,p,o,hp=>by simp[zfq]at h
 | .n v l r,.n v' l' r',h,p,o,hp=>by
  simp only[zfq,Bool.and_eq_true]at h
  cases p with
  | h=>exact chkO_ok h.1.1 hp
  | o p=>exact zfp l l' h.1.2 p o hp
  | i p=>exact zfp r r' h.2 p o hp
theorem zdW:∀ (a b:PT O) (k:PT O->Nat),zca a b k=0->∃ t,k t=0/\∀ p o,t.get p=some o->∃ o0,a.get p=some o0
 | .e,b,k,hk=>⟨.e,by unfold zca at hk;exact hk,fun p o hp=>by rw[PT.get_e]at hp;cases hp⟩
 | .n v l r,.e,k,hk=>⟨.e,by unfold zca at hk;exact hk,fun p o hp=>by rw[PT.get_e]at hp;cases hp⟩
 | .n v l r,.n v' l' r',k,hk=>by
  unfold zca at hk
  obtain⟨a,hk,ha⟩:=zdW l l' _ hk
  obtain⟨b,hk,hb⟩:=zdW r r' _ hk
  have key:∀ x:Option O,(x.isSome=true->v.isSome=true)->k (.n x a b)=0->∃ t,k t=0/\∀ p o,t.get p=some o->∃ o0,(PT.n v l r).get p=some o0:=by
   intro x hx hk
   refine⟨_,hk,fun p o hp=>?_⟩
   cases p with
   | h=>
    have hp:x=some o:=hp
    exact Option.isSome_iff_exists.1 (show v.isSome=true from hx (by rw[hp];rfl))
   | o p=>exact ha p o hp
   | i p=>exact hb p o hp
  split at hk
  ·rename_i o
   unfold unmx at hk
   split at hk
   ·exact key _ (fun _=>rfl) hk
   ·exact key _ (fun _=>rfl) hk
  ·exact key none (fun h=>by cases h) hk
theorem zmA {α:Type} {f:α->Nat} {l:List α} (h:zjk false f l=0):∃ x∈l,f x=0:=by
 cases l with
 | nil=>cases h
 | cons x r=>exact⟨x,List.mem_cons_self ..,h⟩
theorem zAX {h:H} {v:Option V} {k:H->Nat} (hk:fixT false h v k=0):∃ h1,k h1=0:=by
 unfold fixT at hk
 split at hk
 ·rename_i id
  split at hk
  ·rename_i l ho
   rw[yG]at hk
   split at hk
   ·exact⟨h,hk⟩
   ·obtain⟨hm,hk⟩:=zn hk (by simp)
    obtain⟨l',hl,hk⟩:=zmA hk
    rw[y9]at hk
    exact⟨_,hk⟩
  ·exact⟨h,hk⟩
 ·exact⟨h,hk⟩
theorem nOp_end {Y:Ty} (hY:TyOk P Y) {ops:Array Oper} {o:Oper} {x:ION} (hx:zed Y N ops.toList o=some x) {c:Ctx} (hcall:zi E P c.call) {fr:Fr} {h:H} {fa:Fa} (hfa:FaOk E fa) {k:K1}
  (hk:nOp false x c fr h fa k=0):∃ fr' h' fa',k fr' h' fa'=0/\FaOk E fa':=by
 have plain:∀ {x:OI} {h1:H},jQ Y N ops.toList o=some x->OI.go zam jd x c fr h1 fa k=0->∃ fr' h' fa',k fr' h' fa'=0/\FaOk E fa':=by
  intro x h1 hx hk
  obtain⟨fr',h',fa',hk',hfa',_⟩:=zaF hY hx hcall hfa hk
  exact⟨fr',h',fa',hk',hfa'⟩
 unfold zed at hx
 split at hx
 ·rename_i i hop hgd
  split at hx
  ·rename_i d i' hdst hi
   simp at hx;subst hx
   have hk:nNxt false d i' c fr h fa k=0:=hk
   unfold nNxt at hk
   obtain⟨id,s,hv,⟨a',b',c',ho,hz⟩ | ⟨m,l,ho,hx,hk⟩⟩:=zeP hk (by simp)
   ·obtain⟨fr',h1,_⟩:=zP hfa hdst hz
    exact⟨_,_,_,h1,hfa⟩
   ·obtain⟨hm,hk⟩:=zn hk (by simp)
    split at hk
    ·obtain⟨fr',h1,_⟩:=zP hfa hdst hk
     exact⟨_,_,_,h1,hfa⟩
    ·obtain⟨p,hp,hk⟩:=zmA hk
     unfold zfa at hk
     rw[y9]at hk
     obtain⟨fr',h1,_⟩:=zP hfa hdst hk
     exact⟨_,_,_,h1,hfa⟩
  ·simp at hx
 ·rename_i t m hop
  split at hx
  ·rename_i m' x' hm hx'
   simp at hx;subst hx
   obtain⟨h1,hk1⟩:=zAX (show fixT false h (od m' fr) (fun h=>OI.go zam jd x' c fr h fa k)=0 from hk)
   exact plain hx' hk1
  ·simp at hx
 ·split at hx
  ·rename_i x' hx'
   simp at hx;subst hx
   exact plain hx' hk
  ·simp at hx
theorem ztL {Y:Ty} (hY:TyOk P Y) {ops:Array Oper} {c:Ctx} (hcall:zi E P c.call) {k:K1}:∀ (l:List Oper) (l':List ION) (fr:Fr) (h:H) (fa:Fa),zaS Y N ops.toList l=some l'->FaOk E fa->zlR false l' c fr h fa k=0 ->
  ∃ fr' h' fa',k fr' h' fa'=0/\FaOk E fa'
 | [],l',fr,h,fa,hl,hfa,hk=>by
  simp[zaS]at hl;subst hl
  exact⟨fr,h,fa,hk,hfa⟩
 | o::r,l',fr,h,fa,hl,hfa,hk=>by
  obtain⟨x,l2,hx,hl2,rfl⟩:=zdI hl
  obtain⟨fr1,h1,fa1,hk1,hfa1⟩:=nOp_end hY hx hcall hfa (show nOp false x c fr h fa (fun fr h fa=>zlR false l2 c fr h fa k)=0 from hk)
  exact ztL hY hcall r l2 fr1 h1 fa1 hl2 hfa1 hk1
theorem zx9 {Y:Ty} (hY:TyOk P Y) (hm:P.follows .mixedOrders=true) {dr:Nat->Option Dr} {g:Ctx} (hcall:zi E P g.call):∀ (c:Code) (fr:Fr) (h:H) (fa:Fa) (k:K2),zH dr c=true->FaOk E fa ->
  jq false (yR Y N dr c) g fr h fa k=0->∃ ae fr' h' fa',k ae fr' h' fa'=0/\FaOk E fa':=by
 have det:∀ (c:Code) (fr:Fr) (h:H) (fa:Fa) (k:K2),zH dr c=true->FaOk E fa->jp (yo Y N dr c) g fr h fa k=0->∃ ae fr' h' fa',k ae fr' h' fa'=0/\FaOk E fa':=by
  intro c fr h fa k hB hfa hk
  obtain⟨ae,fr1,h1,fa1,hk1,hfa1,r1⟩:=yF hY hm hcall c fr h fa k hB hfa hk
  exact⟨ae,fr1,h1,fa1,hk1,hfa1⟩
 intro c
 induction c with
 | skip=>exact fun fr h fa k hB hfa hk=>det _ fr h fa k hB hfa hk
 | ret=>exact fun fr h fa k hB hfa hk=>det _ fr h fa k hB hfa hk
 | exit i=>exact fun fr h fa k hB hfa hk=>det _ fr h fa k hB hfa hk
 | label i=>exact fun fr h fa k hB hfa hk=>det _ fr h fa k hB hfa hk
 | goto i=>exact fun fr h fa k hB hfa hk=>det _ fr h fa k hB hfa hk
 | refuse i=>exact fun fr h fa k hB hfa hk=>det _ fr h fa k hB hfa hk
 | rangeFunc f ps x y _ _=>exact fun fr h fa k hB hfa hk=>det _ fr h fa k hB hfa hk
 | scope x ih=>exact fun fr h fa k hB hfa hk=>ih fr h fa k (by simpa only[zH] using hB) hfa hk
 | seq x y ihx ihy=>
  intro fr h fa k hB hfa hk
  simp only[zH,Bool.and_eq_true]at hB
  obtain⟨ae,fr1,h1,fa1,hk1,hfa1⟩:=ihx fr h fa _ hB.1 hfa (show jq false (yR Y N dr x) g fr h fa (fun e fr h fa=>je e (jq false (yR Y N dr y) g fr h fa k) (k .ret fr h fa) (fun i=>k (.exit i) fr h fa))=0 from hk)
  cases ae with
  | normal=>exact ihy fr1 h1 fa1 k hB.2 hfa1 hk1
  | ret=>exact⟨_,_,_,_,hk1,hfa1⟩
  | exit i=>exact⟨_,_,_,_,hk1,hfa1⟩
 | cond o x y ihx ihy=>
  intro fr h fa k hB hfa hk
  cases o with
  | tmp t=>
   simp only[zH,Bool.and_eq_true]at hB
   have hk:way fa (fr.get (zp t)) (fun b fa=>bc b (jq false (yR Y N dr x) g fr h fa k) (jq false (yR Y N dr y) g fr h fa k)) (err g 44)=0:=hk
   obtain⟨v,b,fa',hv,hb,hfa',hk⟩:=zcR hk (zl _ _) hfa (fun _=>⟨0,0⟩)
   cases b with
   | true=>exact ihx fr h fa' k hB.1 hfa' hk
   | false=>exact ihy fr h fa' k hB.2 hfa' hk
  | _=>exact det _ fr h fa k hB hfa hk
 | block i x ih=>
  intro fr h fa k hB hfa hk
  simp only[zH]at hB
  obtain⟨ae,fr1,h1,fa1,hk1,hfa1⟩:=ih fr h fa _ hB hfa (show jq false (yR Y N dr x) g fr h fa (fun e fr h fa=>je e (k .normal fr h fa) (k .ret fr h fa) (fun j=>bc (Nat.beq j i) (k .normal fr h fa) (k (.exit j) fr h fa)))=0 from hk)
  cases ae with
  | normal=>exact⟨_,_,_,_,hk1,hfa1⟩
  | ret=>exact⟨_,_,_,_,hk1,hfa1⟩
  | exit j=>
   have hk2:bc (Nat.beq j i) (k .normal fr1 h1 fa1) (k (.exit j) fr1 h1 fa1)=0:=hk1
   rw[yG]at hk2
   split at hk2
   ·exact⟨_,_,_,_,hk2,hfa1⟩
   ·exact⟨_,_,_,_,hk2,hfa1⟩
 | loop x ih=>
  intro fr h fa k hB hfa hk
  simp only[zH]at hB
  have key:∀ n fr h fa,FaOk E fa->zfA (jq false (yR Y N dr x)) n g fr h fa k=0->∃ ae fr' h' fa',k ae fr' h' fa'=0/\FaOk E fa':=by
   intro n
   induction n with
   | zero=>intro fr h fa hfa hk;exact absurd hk (zl _ _)
   | succ n ihn=>
    intro fr h fa hfa hk
    obtain⟨ae,fr1,h1,fa1,hk1,hfa1⟩:=ih fr h fa _ hB hfa (show jq false (yR Y N dr x) g fr h fa (fun e fr h fa=>je e (zfA (jq false (yR Y N dr x)) n g fr h fa k) (k .ret fr h fa) (fun i=>k (.exit i) fr h fa))=0 from hk)
    cases ae with
    | normal=>exact ihn fr1 h1 fa1 hfa1 hk1
    | ret=>exact⟨_,_,_,_,hk1,hfa1⟩
    | exit i=>exact⟨_,_,_,_,hk1,hfa1⟩
  exact key g.fuel fr h fa hfa hk
 | region id ops dw=>
  intro fr h fa k hB hfa hk
  cases dw with
  | true=>
   have hk:jq false (match dr id with
  | some (.fork bs pre xs ys)=>match zZ Y N ops.toList (pre.map (fun i=>(true,i))),zZ Y N ops.toList xs,zZ Y N ops.toList ys with
   | some p,some a,some b=>.fork (bs.map zp) p a b
   | _,_,_=>.bad
  | _=>.det (yo Y N dr (.region id ops true))) g fr h fa k=0:=hk
   split at hk
   ·rename_i bs pre xs ys hdr
    split at hk
    ·rename_i p x y h1 h2 h3
     have hB:zfN ops pre xs ys=true:=by
      simp only[zH,hdr]at hB;exact hB
     exact zAR hY hm hcall hB h1 h2 hfa (show zcN fr (err g 64) (bs.map zp) h (fun hS=>z3 hS p g fr h fa (fun fr h fa=>z3 hS x g fr h fa (fun fr h fa=>k .normal fr h fa)))=0 from hk)
    ·exact absurd hk (zl _ _)
   ·exact det _ fr h fa k hB hfa hk
  | false=>
   simp only[yR]at hk
   split at hk
   ·rename_i l hl
    obtain⟨fr1,h1,fa1,hk1,hfa1⟩:=ztL hY hcall _ _ fr h fa hl hfa (show zlR false l g fr h fa (fun fr h fa=>k .normal fr h fa)=0 from hk)
    exact⟨_,_,_,_,hk1,hfa1⟩
   ·exact absurd hk (zl _ _)
theorem fnN_end {Y:Ty} (hY:TyOk P Y) (hm:P.follows .mixedOrders=true) {call:zy} (hcall:zi E P call) {dr:Nat->Option Dr} {fuel F:Nat} {f:Func} {i:IFnN} (hi:cFnN Y dr f=some i)
  (hdr:∀ c,f.body=some c->zH dr c=true) {l:List V} {h:H} {fa:Fa} {k:K} (hk:fnN false i.body i.res call F fuel l h fa k=0) (hfa:FaOk E fa):∃ v h1 fa1,k v h1 fa1=0:=by
 unfold cFnN at hi
 split at hi
 rotate_left
 ·simp at hi
 rename_i c rs hcd hrs
 simp at hi;subst hi
 obtain⟨fr,hk,hfr⟩:=jH hk
 obtain⟨ae,fr1,h1,fa1,hk1,hfa1⟩:=zx9 hY hm (g:=⟨call,F,fuel⟩) hcall c fr h fa _ (hdr c hcd) hfa hk
 have fin:∀ {e:Nat},e≠0->za0 rs fr1 h1 (fun v=>k v h1 fa1) e=0->∃ v h1 fa1,k v h1 fa1=0:=by
  intro e he hr
  obtain⟨vs,hvs,hr⟩:=zA (show oc (zbv fr1 h1 rs) _ _=0 from hr) he
  match vs,hr with
  | [],hr=>exact⟨.tup [],h1,fa1,hr⟩
  | [x],hr=>exact⟨x,h1,fa1,hr⟩
  | x::y::r,hr=>exact⟨.tup (x::y::r),h1,fa1,hr⟩
 cases ae with
 | normal=>exact fin (by simp) hk1
 | ret=>exact fin (by simp) hk1
 | exit i=>exact absurd (show Nat.succ _=0 from hk1) (by simp)
theorem zvD {Y:Ty} (hY:TyOk P Y) (hm:P.follows .mixedOrders=true) {call:zy} (hcall:zi E P call) {dr:Nat->Option Dr} {fuel F:Nat} {f:Func} {i:IFnN} (hfn:P.funcs[F]? = some f) (hca:yl P F)
  (hi:cFnN Y dr f=some i) (hdr:∀ c,f.body=some c->zH dr c=true):zi E P (fun G l h fa k=>bc (Nat.beq G F) (cntT i.body i.res call F fuel l h fa k) 1):=by
 intro G l h fa k hk hfa
 obtain⟨hG,hk⟩:=zn (show bc (Nat.beq G F) _ 1=0 from hk) (by simp)
 have hG:G=F:=by simpa using hG
 subst hG
 refine⟨hca,?_⟩
 obtain⟨n,lo,t⟩:=h
 obtain⟨hlo,hk⟩:=zn (show bc (isH lo) (fnN false i.body i.res call G fuel l ⟨n,lo,t⟩ fa (fun v h1 _=>hc h1 (fun n1 _ t1=>zca t t1 (fun t'=>zem (fnN true i.body i.res call G fuel l ⟨n,lo,t⟩ fa (chkN v n1 lo t')) (k v ⟨n1,lo,t'⟩ fa))))) 1=0 from hk) (by simp)
 have hlo:=(zwC lo).1 hlo
 obtain⟨v,h1,_,hk⟩:=fnN_end hY hm hcall hi hdr hk hfa
 obtain⟨n1,lo1,t1⟩:=h1
 obtain⟨t',hk,hdom⟩:=zdW t t1 _ hk
 obtain⟨hall,hk⟩:=ze9 hk
 refine⟨v,⟨n1,lo,t'⟩,fa,hk,hfa,fun ρ w hb hs=>?_⟩
 refine(fnN_run hY hm hcall hfn hi hdr hall hfa ρ w hb hs).mono ?_
 rintro e w' ⟨v2,h2,fa2,ρ',hcz,_,rfl,s,x,hv⟩
 obtain⟨n2,lo2,t2⟩:=h2
 obtain⟨e1,hcz⟩:=zn (show bc (V.beq v2 v) (bc (pLe n2 n1 && pEq lo lo2 && zfq t' t2) 0 1) 1=0 from hcz) (by simp)
 obtain⟨e2,_⟩:=zn hcz (by simp)
 simp only[Bool.and_eq_true]at e2
 obtain⟨⟨e2,e3⟩,e4⟩:=e2
 have e1:=V.beq_ok e1
 have e2:n2.toNat<=n1.toNat:=by simpa [pLe] using e2
 have e3:=jn e3
 have ht:=zfp _ _ e4
 subst e1;subst e3
 refine⟨ρ',rfl,⟨fun p o hp=>?_,fun p q o o' hp hq l1 l2 he=>?_,fun p o hp=>?_⟩,⟨?_,rfl,x.agree,fun p o hp hg hl=>?_,x.os,x.tape,x.output,x.size,x.keep,fun p hp _=>?_,fun p o' hp hg hl=>?_⟩,bd_mono e2 _ hv⟩
 ·obtain⟨o2,g2,hT⟩:=ht p o hp
  exact hT.is (s.obj p o2 g2)
 ·obtain⟨o2,g2,hT⟩:=ht p o hp
  obtain⟨o3,g3,hT3⟩:=ht q o' hq
  exact s.inj p q o2 o3 g2 g3 (hT.mine.trans l1) (hT3.live.trans l2) he
 ·obtain⟨o2,g2,hT⟩:=ht p o hp
  obtain⟨q1,q2⟩:=s.bd p o2 g2
  exact⟨Nat.lt_of_lt_of_le q1 e2,O.bd_mono e2 o (hT.bd q2)⟩
 ·exact Nat.le_trans x.len e2
 ·obtain⟨o0,h0⟩:=hdom p o hg
  have:=(hs.bd p o0 h0).1
  have hp:n.toNat<=p.toNat:=hp
  have:p.toNat<n.toNat:=this
  omega
 ·have hp:p.toNat<lo.toNat:=hp
  rw[hlo]at hp
  have h3:=Ev.P.toNat_pos p
  have h4:(Ev.P.h).toNat=1:=rfl
  omega
 ·obtain⟨o2,g2,hT⟩:=ht p o' hg
  exact x.liv p o2 hp g2 (hT.live.trans hl)
end Go.Ev
end
set_option linter.unusedSimpArgs false
set_option linter.unusedVariables false
noncomputable section
namespace Go.Ev
open Go
inductive AEG where
 | ae (e:AE) | goto (l:Nat)
inductive ICG where
 | det (c:IC) | seq (a b:ICG) | cond (t:Ky) (a b:ICG) | block (i:Nat) (a:ICG) | jmp (l:Nat) | scope (l:Nat) (a b:ICG) | bad
abbrev KG:=AEG->Fr->H->Fa->Nat
abbrev SG:=Ctx->Fr->H->Fa->KG->Nat
def zcO {σ:Type} (e:AEG) (a:AE->σ) (g:Nat->σ):σ:=match e with
 | .ae e=>a e
 | .goto l=>g l
def jmpT (rb:SG) (l:Nat) (c:Ctx) (k:KG):Nat->Fr->H->Fa->Nat
 | 0=>fun _ _ _=>err c 45
 | n+1=>fun fr h fa=>rb c fr h fa (fun e fr h fa=>zcO e (fun e=>k (.ae e) fr h fa) (fun l'=>bc (Nat.beq l' l) (jmpT rb l c k n fr h fa) (err c 46)))
def jT:ICG->SG
 | .det c=>fun g fr h fa k=>jp c g fr h fa (fun e fr h fa=>k (.ae e) fr h fa)
 | .seq a b=>fun g fr h fa k=>jT a g fr h fa (fun e fr h fa=>zcO e (fun e=>je e (jT b g fr h fa k) (k (.ae .ret) fr h fa) (fun i=>k (.ae (.exit i)) fr h fa)) (fun l=>k (.goto l) fr h fa))
 | .cond t a b=>fun g fr h fa k=>way fa (fr.get t) (fun x fa=>bc x (jT a g fr h fa k) (jT b g fr h fa k)) (err g 44)
 | .block i a=>fun g fr h fa k=>jT a g fr h fa (fun e fr h fa=>zcO e (fun e=>je e (k (.ae .normal) fr h fa) (k (.ae .ret) fr h fa) (fun j=>bc (Nat.beq j i) (k (.ae .normal) fr h fa) (k (.ae (.exit j)) fr h fa))) (fun l=>k (.goto l) fr h fa))
 | .jmp l=>fun _ fr h fa k=>k (.goto l) fr h fa
 | .scope l a b=>fun g fr h fa k=>jT a g fr h fa (fun e fr h fa=>zcO e (fun e=>k (.ae e) fr h fa) (fun l'=>bc (Nat.beq l' l) (jmpT (jT b) l g k 1000 fr h fa) (err g 46)))
 | .bad=>fun g _ _ _ _=>err g 46
def jK (Y:Ty) (N:Nat) (dr:Nat->Option Dr):Code->ICG
 | .seq a b=>.seq (jK Y N dr a) (jK Y N dr b)
 | .cond (.tmp t) a b=>.cond (zp t) (jK Y N dr a) (jK Y N dr b)
 | .block i a=>.block i (jK Y N dr a)
 | .goto l=>.jmp l
 | c=>.det (yo Y N dr c)
def zwy:Code->Option Nat
 | .label l=>some l
 | .seq a b=>match zwy a with
  | some l=>some l
  | none=>zwy b
 | _=>none
def zbU (Y:Ty) (N:Nat) (dr:Nat->Option Dr):Code->ICG
 | .seq a b=>.seq (zbU Y N dr a) (zbU Y N dr b)
 | .scope c=>match zwy c with
  | some l=>match findLabel c l with
   | some r=>.scope l (jK Y N dr c) (jK Y N dr r)
   | none=>.bad
  | none=>.det (yo Y N dr (.scope c))
 | c=>.det (yo Y N dr c)
structure IFnG where
 body:ICG
 res:List IR
def cFnG (Y:Ty) (dr:Nat->Option Dr) (f:Func):Option IFnG:=
 match f.body,zbd Y f.results.toList with
 | some c,some rs=>some ⟨zbU Y f.ntmps dr c,rs⟩
 | _,_=>none
def gotT (x:ICG) (rs:List IR) (call:zy) (F fuel:Nat):List V->H->Fa->K->Nat:=fun l h fa k=>
 zbp l (fun fr=>jT x ⟨call,F,fuel⟩ fr h fa (fun e fr h fa=>zcO e (fun e=>je e (za0 rs fr h (fun v=>k v h fa) (Nat.succ (Nat.add (Nat.mul F 100) 49))) (za0 rs fr h (fun v=>k v h fa) (Nat.succ (Nat.add (Nat.mul F 100) 49)))
  (fun _=>Nat.succ (Nat.add (Nat.mul F 100) 48))) (fun _=>Nat.succ (Nat.add (Nat.mul F 100) 48))))
end Go.Ev
end
set_option linter.unusedSimpArgs false
set_option linter.unusedVariables false
noncomputable section
namespace Go.Ev
open Go
variable {E:Env} {P:Program} {N:Nat}
def AEG.exit':AEG->Exit
 | .ae e=>e.exit'
 | .goto l=>.goto l
def Jn (P:Program) (l:Nat) (rest:Code) (Q:Exit->Act->World->Prop):Nat->Act->World->Prop
 | 0,_,_=>False
 | n+1,a,w=>rest.wp P (Exit.jump l (Jn P l rest Q n) Q) a w
theorem zxU {l:Nat} {J J':Act->World->Prop} {Q:Exit->Act->World->Prop} (h:∀ a w,J a w->J' a w):∀ e a w,Exit.jump l J Q e a w->Exit.jump l J' Q e a w:=by
 intro e a w hq
 cases e with
 | goto l'=>exact⟨hq.1,h _ _ hq.2⟩
 | _=>exact hq
theorem zcH {c rest:Code} {l:Nat} {Q:Exit->Act->World->Prop} {a:Act} {w:World} (hf:findLabel c l=some rest) (h:c.wp P (Exit.jump l (fun a w=>∃ n,Jn P l rest Q n a w) Q) a w):(Code.scope c).wp P Q a w:=by
 classical
 have least:∀ a w,(∃ n,Jn P l rest Q n a w)->∃ n,Jn P l rest Q n a w/\∀ m,Jn P l rest Q m a w->n<=m:=by
  intro a w ⟨n,hn⟩
  induction n using Nat.strongRecOn with
  | _ n ih=>
   by_cases hx:∃ m,m<n/\Jn P l rest Q m a w
   ·obtain⟨m,hm,hj⟩:=hx
    exact ih m hm hj
   ·exact⟨n,hn,fun m hj=>Nat.le_of_not_lt fun hm=>hx ⟨m,hm,hj⟩⟩
 let μ:Act->World->Nat:=fun a w=>if hx:∃ n,Jn P l rest Q n a w then Classical.choose (least a w hx) else 0
 have hμ:∀ a w (hx:∃ n,Jn P l rest Q n a w),Jn P l rest Q (μ a w) a w/\∀ m,Jn P l rest Q m a w->μ a w<=m:=by
  intro a w hx
  simp only[μ,dif_pos hx]
  exact Classical.choose_spec (least a w hx)
 refine wp_scope_jumps l (fun a w=>∃ n,Jn P l rest Q n a w) μ hf h fun a w hJ=>?_
 obtain⟨h1,h2⟩:=hμ a w hJ
 cases hn:μ a w with
 | zero=>rw[hn]at h1;exact h1.elim
 | succ n=>
  rw[hn]at h1
  refine wp_mono (show rest.wp P (Exit.jump l (Jn P l rest Q n) Q) a w from h1) (zxU fun a' w' hj=>⟨⟨n,hj⟩,?_⟩)
  have:=(hμ a' w' ⟨n,hj⟩).2 n hj
  omega
def RunsG (E:Env) (P:Program) (N:Nat) (c:Code) (fr:Fr) (h:H) (k:KG):Prop:=
 ∃ ae fr' h' fa',k ae fr' h' fa'=0/\FaOk E fa'/\∀ (DS:List Deferred) ρ w a QQ,Sat E ρ h w->zw E ρ h.n.toNat fr (a:Act).tmps->N<=a.tmps.size->a.defers=DS->(∀ a' w',At E N DS ρ h w fr' h' a' w'->QQ (AEG.exit' ae) a' w')->c.wp P QQ a w
theorem zaa {Y:Ty} (hY:TyOk P Y) (hm:P.follows .mixedOrders=true) {dr:Nat->Option Dr} {g:Ctx} (hcall:zi E P g.call) (c:Code) (fr:Fr) (h:H) (fa:Fa) (k:KG) (hB:zH dr c=true) (hfa:FaOk E fa)
  (hk:jp (yo Y N dr c) g fr h fa (fun e fr h fa=>k (.ae e) fr h fa)=0):RunsG E P N c fr h k:=by
 obtain⟨ae,fr1,h1,fa1,hk1,hfa1,r1⟩:=yF hY hm hcall c fr h fa _ hB hfa hk
 exact⟨.ae ae,fr1,h1,fa1,hk1,hfa1,fun DS ρ w a QQ hs hf hN hd hQ=>r1 ρ w a QQ hs hf hN hd hQ⟩
theorem zi2 {Y:Ty} (hY:TyOk P Y) (hm:P.follows .mixedOrders=true) {dr:Nat->Option Dr} {g:Ctx} (hcall:zi E P g.call):∀ (c:Code) (fr:Fr) (h:H) (fa:Fa) (k:KG),zH dr c=true->FaOk E fa ->
  jT (jK Y N dr c) g fr h fa k=0->RunsG E P N c fr h k:=by
 intro c
 induction c with
 | skip=>exact fun fr h fa k hB hfa hk=>zaa hY hm hcall _ fr h fa k hB hfa hk
 | ret=>exact fun fr h fa k hB hfa hk=>zaa hY hm hcall _ fr h fa k hB hfa hk
 | exit i=>exact fun fr h fa k hB hfa hk=>zaa hY hm hcall _ fr h fa k hB hfa hk
 | label i=>exact fun fr h fa k hB hfa hk=>zaa hY hm hcall _ fr h fa k hB hfa hk
 | refuse i=>exact fun fr h fa k hB hfa hk=>zaa hY hm hcall _ fr h fa k hB hfa hk
 | rangeFunc f ps x y _ _=>exact fun fr h fa k hB hfa hk=>zaa hY hm hcall _ fr h fa k hB hfa hk
 | loop x _=>exact fun fr h fa k hB hfa hk=>zaa hY hm hcall _ fr h fa k hB hfa hk
 | scope x _=>exact fun fr h fa k hB hfa hk=>zaa hY hm hcall _ fr h fa k hB hfa hk
 | region id ops dw=>exact fun fr h fa k hB hfa hk=>zaa hY hm hcall _ fr h fa k hB hfa hk
 | goto l=>exact fun fr h fa k hB hfa hk=>⟨.goto l,fr,h,fa,hk,hfa,fun DS ρ w a QQ hs hf hN hd hQ=>wp_goto (hQ _ _ ⟨ρ,hf,hN,hd,hs,hs.refl E⟩)⟩
 | seq x y ihx ihy=>
  intro fr h fa k hB hfa hk
  simp only[zH,Bool.and_eq_true]at hB
  obtain⟨e,fr1,h1,fa1,hk1,hfa1,r1⟩:=ihx fr h fa _ hB.1 hfa (show jT (jK Y N dr x) g fr h fa (fun e fr h fa=>zcO e (fun e=>je e (jT (jK Y N dr y) g fr h fa k) (k (.ae .ret) fr h fa) (fun i=>k (.ae (.exit i)) fr h fa)) (fun l=>k (.goto l) fr h fa))=0 from hk)
  cases e with
  | goto l=>exact⟨.goto l,fr1,h1,fa1,hk1,hfa1,fun DS ρ w a QQ hs hf hN hd hQ=>wp_seq (r1 DS ρ w a _ hs hf hN hd hQ)⟩
  | ae e=>
   cases e with
   | ret=>exact⟨.ae .ret,fr1,h1,fa1,hk1,hfa1,fun DS ρ w a QQ hs hf hN hd hQ=>wp_seq (r1 DS ρ w a _ hs hf hN hd hQ)⟩
   | exit i=>exact⟨.ae (.exit i),fr1,h1,fa1,hk1,hfa1,fun DS ρ w a QQ hs hf hN hd hQ=>wp_seq (r1 DS ρ w a _ hs hf hN hd hQ)⟩
   | normal=>
    obtain⟨e2,fr2,h2,fa2,hk2,hfa2,r2⟩:=ihy fr1 h1 fa1 k hB.2 hfa1 hk1
    refine⟨e2,fr2,h2,fa2,hk2,hfa2,fun DS ρ w a QQ hs hf hN hd hQ=>wp_seq (r1 DS ρ w a _ hs hf hN hd ?_)⟩
    rintro a1 w1 ⟨ρ1,f1,n1,d1,s1,x1⟩
    exact r2 DS ρ1 w1 a1 QQ s1 f1 n1 d1 fun a' w' hA=>hQ a' w' (hA.trans x1)
 | cond o x y ihx ihy=>
  intro fr h fa k hB hfa hk
  cases o with
  | tmp t=>
   simp only[zH,Bool.and_eq_true]at hB
   have hk:way fa (fr.get (zp t)) (fun b fa=>bc b (jT (jK Y N dr x) g fr h fa k) (jT (jK Y N dr y) g fr h fa k)) (err g 44)=0:=hk
   obtain⟨v,b,fa',hv,hb,hfa',hk⟩:=zcR hk (zl _ _) hfa (fun _=>⟨0,0⟩)
   have hev:∀ ρ n (a:Act),zw E ρ n fr a.tmps->a.eval (.tmp t)=.bool b:=by
    intro ρ n a hf
    have h1:=(hf t v hv).1
    have h2:v.γ E ρ=.bool b:=by cases v <;> simp[V.γ]at hb ⊢ <;> exact hb
    simp[Act.eval,h1,h2]
   cases b with
   | true=>
    obtain⟨e,fr1,h1,fa1,hk1,hfa1,r1⟩:=ihx fr h fa' k hB.1 hfa' hk
    exact⟨e,fr1,h1,fa1,hk1,hfa1,fun DS ρ w a QQ hs hf hN hd hQ=>wp_cond_true (hev ρ _ a hf) (r1 DS ρ w a QQ hs hf hN hd hQ)⟩
   | false=>
    obtain⟨e,fr1,h1,fa1,hk1,hfa1,r1⟩:=ihy fr h fa' k hB.2 hfa' hk
    exact⟨e,fr1,h1,fa1,hk1,hfa1,fun DS ρ w a QQ hs hf hN hd hQ=>wp_cond_false (hev ρ _ a hf) (r1 DS ρ w a QQ hs hf hN hd hQ)⟩
  | _=>exact zaa hY hm hcall _ fr h fa k hB hfa hk
 | block i x ih=>
  intro fr h fa k hB hfa hk
  simp only[zH]at hB
  obtain⟨e,fr1,h1,fa1,hk1,hfa1,r1⟩:=ih fr h fa _ hB hfa (show jT (jK Y N dr x) g fr h fa (fun e fr h fa=>zcO e (fun e=>je e (k (.ae .normal) fr h fa) (k (.ae .ret) fr h fa) (fun j=>bc (Nat.beq j i) (k (.ae .normal) fr h fa) (k (.ae (.exit j)) fr h fa))) (fun l=>k (.goto l) fr h fa))=0 from hk)
  cases e with
  | goto l=>exact⟨.goto l,fr1,h1,fa1,hk1,hfa1,fun DS ρ w a QQ hs hf hN hd hQ=>wp_block (r1 DS ρ w a _ hs hf hN hd hQ)⟩
  | ae e=>
   cases e with
   | normal=>exact⟨.ae .normal,fr1,h1,fa1,hk1,hfa1,fun DS ρ w a QQ hs hf hN hd hQ=>wp_block (r1 DS ρ w a _ hs hf hN hd hQ)⟩
   | ret=>exact⟨.ae .ret,fr1,h1,fa1,hk1,hfa1,fun DS ρ w a QQ hs hf hN hd hQ=>wp_block (r1 DS ρ w a _ hs hf hN hd hQ)⟩
   | exit j=>
    have hk2:bc (Nat.beq j i) (k (.ae .normal) fr1 h1 fa1) (k (.ae (.exit j)) fr1 h1 fa1)=0:=hk1
    cases hj:Nat.beq j i with
    | true=>
     rw[hj]at hk2
     have hj:j=i:=by simpa using hj
     subst hj
     refine⟨.ae .normal,fr1,h1,fa1,hk2,hfa1,fun DS ρ w a QQ hs hf hN hd hQ=>wp_block (r1 DS ρ w a _ hs hf hN hd fun a' w' hA=>?_)⟩
     show Exit.inBlock j _ (.exit j) a' w'
     simp only[Exit.inBlock,if_true]
     exact hQ a' w' hA
    | false=>
     rw[hj]at hk2
     have hj:¬ j=i:=by
      intro e;subst e;simp at hj
     refine⟨.ae (.exit j),fr1,h1,fa1,hk2,hfa1,fun DS ρ w a QQ hs hf hN hd hQ=>wp_block (r1 DS ρ w a _ hs hf hN hd fun a' w' hA=>?_)⟩
     show Exit.inBlock i _ (.exit j) a' w'
     simp only[Exit.inBlock,hj,if_false]
     exact hQ a' w' hA
theorem zx1 {dr:Nat->Option Dr}:∀ {c r:Code} {l:Nat},findLabel c l=some r->zH dr c=true->zH dr r=true:=by
 intro c
 induction c with
 | seq a b iha ihb=>
  intro r l h hB
  simp only[zH,Bool.and_eq_true]at hB
  simp only[findLabel]at h
  split at h
  ·rename_i rest hr
   simp at h;subst h
   simp only[zH,Bool.and_eq_true]
   exact⟨iha hr hB.1,hB.2⟩
  ·exact ihb h hB.2
 | label i=>
  intro r l h hB
  simp only[findLabel]at h
  split at h
  ·simp at h;subst h;rfl
  ·simp at h
 | _=>intros;rename_i h _;simp[findLabel]at h
theorem zya {Y:Ty} (hY:TyOk P Y) (hm:P.follows .mixedOrders=true) {dr:Nat->Option Dr} {g:Ctx} (hcall:zi E P g.call):∀ (c:Code) (fr:Fr) (h:H) (fa:Fa) (k:KG),zH dr c=true->FaOk E fa ->
  jT (zbU Y N dr c) g fr h fa k=0->RunsG E P N c fr h k:=by
 intro c
 induction c with
 | seq x y ihx ihy=>
  intro fr h fa k hB hfa hk
  simp only[zH,Bool.and_eq_true]at hB
  obtain⟨e,fr1,h1,fa1,hk1,hfa1,r1⟩:=ihx fr h fa _ hB.1 hfa (show jT (zbU Y N dr x) g fr h fa (fun e fr h fa=>zcO e (fun e=>je e (jT (zbU Y N dr y) g fr h fa k) (k (.ae .ret) fr h fa) (fun i=>k (.ae (.exit i)) fr h fa)) (fun l=>k (.goto l) fr h fa))=0 from hk)
  cases e with
  | goto l=>exact⟨.goto l,fr1,h1,fa1,hk1,hfa1,fun DS ρ w a QQ hs hf hN hd hQ=>wp_seq (r1 DS ρ w a _ hs hf hN hd hQ)⟩
  | ae e=>
   cases e with
   | ret=>exact⟨.ae .ret,fr1,h1,fa1,hk1,hfa1,fun DS ρ w a QQ hs hf hN hd hQ=>wp_seq (r1 DS ρ w a _ hs hf hN hd hQ)⟩
   | exit i=>exact⟨.ae (.exit i),fr1,h1,fa1,hk1,hfa1,fun DS ρ w a QQ hs hf hN hd hQ=>wp_seq (r1 DS ρ w a _ hs hf hN hd hQ)⟩
   | normal=>
    obtain⟨e2,fr2,h2,fa2,hk2,hfa2,r2⟩:=ihy fr1 h1 fa1 k hB.2 hfa1 hk1
    refine⟨e2,fr2,h2,fa2,hk2,hfa2,fun DS ρ w a QQ hs hf hN hd hQ=>wp_seq (r1 DS ρ w a _ hs hf hN hd ?_)⟩
    rintro a1 w1 ⟨ρ1,f1,n1,d1,s1,x1⟩
    exact r2 DS ρ1 w1 a1 QQ s1 f1 n1 d1 fun a' w' hA=>hQ a' w' (hA.trans x1)
 | scope c _=>
  intro fr h fa k hB hfa hk
  cases hl:zwy c with
  | none=>
   simp only[zbU,hl]at hk
   exact zaa hY hm hcall _ fr h fa k hB hfa hk
  | some l=>
   cases hf:findLabel c l with
   | none=>simp only[zbU,hl,hf]at hk;exact absurd hk (zl _ _)
   | some r=>
    simp only[zbU,hl,hf]at hk
    have hBc:zH dr c=true:=by simpa only[zH] using hB
    have hBr:=zx1 hf hBc
    have key:∀ n fr h fa,FaOk E fa->jmpT (jT (jK Y N dr r)) l g k n fr h fa=0->∃ e fr' h' fa',k (.ae e) fr' h' fa'=0/\FaOk E fa'/\∀ (DS:List Deferred) ρ w a QQ,Sat E ρ h w->zw E ρ h.n.toNat fr (a:Act).tmps->N<=a.tmps.size->a.defers=DS ->
      (∀ a' w',At E N DS ρ h w fr' h' a' w'->QQ (AE.exit' e) a' w')->Jn P l r QQ n a w:=by
     intro n
     induction n with
     | zero=>intro fr h fa hfa hk;exact absurd hk (zl _ _)
     | succ n ih=>
      intro fr h fa hfa hk
      obtain⟨e,fr1,h1,fa1,hk1,hfa1,r1⟩:=zi2 hY hm hcall r fr h fa _ hBr hfa (show jT (jK Y N dr r) g fr h fa (fun e fr h fa=>zcO e (fun e=>k (.ae e) fr h fa) (fun l'=>bc (Nat.beq l' l) (jmpT (jT (jK Y N dr r)) l g k n fr h fa) (err g 46)))=0 from hk)
      cases e with
      | ae e=>
       refine⟨e,fr1,h1,fa1,hk1,hfa1,fun DS ρ w a QQ hs hf hN hd hQ=>r1 DS ρ w a _ hs hf hN hd fun a' w' hA=>?_⟩
       have:=hQ a' w' hA
       cases e <;> exact this
      | goto l'=>
       obtain⟨hll,hk2⟩:=zn (show bc (Nat.beq l' l) _ _=0 from hk1) (zl _ _)
       have hll:l'=l:=by simpa using hll
       subst hll
       obtain⟨e2,fr2,h2,fa2,hk2,hfa2,r2⟩:=ih fr1 h1 fa1 hfa1 hk2
       refine⟨e2,fr2,h2,fa2,hk2,hfa2,fun DS ρ w a QQ hs hf hN hd hQ=>r1 DS ρ w a _ hs hf hN hd ?_⟩
       rintro a1 w1 ⟨ρ1,f1,n1,d1,s1,x1⟩
       exact⟨rfl,r2 DS ρ1 w1 a1 QQ s1 f1 n1 d1 fun a' w' hA=>hQ a' w' (hA.trans x1)⟩
    obtain⟨e,fr1,h1,fa1,hk1,hfa1,r1⟩:=zi2 hY hm hcall c fr h fa _ hBc hfa (show jT (jK Y N dr c) g fr h fa (fun e fr h fa=>zcO e (fun e=>k (.ae e) fr h fa) (fun l'=>bc (Nat.beq l' l) (jmpT (jT (jK Y N dr r)) l g k 1000 fr h fa) (err g 46)))=0 from hk)
    cases e with
    | ae e=>
     refine⟨.ae e,fr1,h1,fa1,hk1,hfa1,fun DS ρ w a QQ hs hf' hN hd hQ=>zcH hf (r1 DS ρ w a _ hs hf' hN hd fun a' w' hA=>?_)⟩
     have:=hQ a' w' hA
     cases e <;> exact this
    | goto l'=>
     obtain⟨hll,hk2⟩:=zn (show bc (Nat.beq l' l) _ _=0 from hk1) (zl _ _)
     have hll:l'=l:=by simpa using hll
     subst hll
     obtain⟨e2,fr2,h2,fa2,hk2,hfa2,r2⟩:=key 1000 fr1 h1 fa1 hfa1 hk2
     refine⟨.ae e2,fr2,h2,fa2,hk2,hfa2,fun DS ρ w a QQ hs hf' hN hd hQ=>zcH hf (r1 DS ρ w a _ hs hf' hN hd ?_)⟩
     rintro a1 w1 ⟨ρ1,f1,n1,d1,s1,x1⟩
     exact⟨rfl,1000,r2 DS ρ1 w1 a1 QQ s1 f1 n1 d1 fun a' w' hA=>hQ a' w' (hA.trans x1)⟩
 | _=>exact fun fr h fa k hB hfa hk=>zaa hY hm hcall _ fr h fa k hB hfa hk
theorem got_ok {Y:Ty} (hY:TyOk P Y) (hm:P.follows .mixedOrders=true) {call:zy} (hcall:zi E P call) {dr:Nat->Option Dr} {fuel F:Nat} {f:Func} {i:IFnG} (hfn:P.funcs[F]? = some f) (hca:yl P F)
  (hi:cFnG Y dr f=some i) (hdr:∀ c,f.body=some c->zH dr c=true):zi E P (fun G l h fa k=>bc (Nat.beq G F) (gotT i.body i.res call F fuel l h fa k) 1):=by
 intro G l h fa k hk hfa
 obtain⟨hG,hk⟩:=zn (show bc (Nat.beq G F) _ 1=0 from hk) (by simp)
 have hG:G=F:=by simpa using hG
 subst hG
 refine⟨hca,?_⟩
 unfold cFnG at hi
 split at hi
 rotate_left
 ·simp at hi
 rename_i c rs hcd hrs
 simp at hi;subst hi
 obtain⟨fr,hk,hfr⟩:=jH hk
 obtain⟨e,fr1,h1,fa1,hk1,hfa1,hrun⟩:=zya hY hm (g:=⟨call,G,fuel⟩) hcall c fr h fa _ (hdr c hcd) hfa hk
 have fin:(AEG.exit' e=.normal\/AEG.exit' e=.ret)->za0 rs fr1 h1 (fun v=>k v h1 fa1) (Nat.succ (Nat.add (Nat.mul G 100) 49))=0->∃ v h' fa',k v h' fa'=0/\FaOk E fa' /\
   ∀ ρ w,bdL h.n.toNat l->Sat E ρ h w->Calls P G (γL E ρ l).toArray w fun e w'=>∃ ρ',e=.returned (v.γ E ρ')/\Sat E ρ' h' w'/\Ext ρ h w ρ' h' w'/\v.bd h'.n.toNat:=by
  intro hae hr
  obtain⟨vs,hvs,hr⟩:=zA (show oc (zbv fr1 h1 rs) _ _=0 from hr) (by simp)
  have hv:∃ v,k v h1 fa1=0/\(∀ n,bdL n vs->v.bd n)/\∀ ρ,(if h:(γL E ρ vs).toArray.size=1 then (γL E ρ vs).toArray[0] else .tuple (γL E ρ vs).toArray)=v.γ E ρ:=by
   match vs,hr with
   | [],hr=>exact⟨.tup [],hr,fun n hn=>hn,fun ρ=>rfl⟩
   | [x],hr=>exact⟨x,hr,fun n hn=>hn.1,fun ρ=>by simp[γL]⟩
   | x::y::r,hr=>exact⟨.tup (x::y::r),hr,fun n hn=>hn,fun ρ=>by simp[γL,V.γ]⟩
  obtain⟨v,hkv,hvb,hvγ⟩:=hv
  refine⟨v,h1,fa1,hkv,hfa1,fun ρ w hb hs=>?_⟩
  refine calls_of_wp hfn hcd ?_
  have hf:zw E ρ h.n.toNat fr ((γL E ρ l).toArray ++ Array.replicate (f.ntmps - (γL E ρ l).toArray.size) undef):=by
   intro t v hv
   have h2:=hfr t v hv
   have ht:t<l.length:=(List.getElem?_eq_some_iff.1 h2).1
   refine⟨?_,(yg _ l).1 hb v (List.mem_of_getElem? h2)⟩
   rw[Array.getElem?_append_left (by simp[γL_length];exact ht)]
   simp[γL_get,h2]
  refine hrun [] ρ w { tmps:=(γL E ρ l).toArray ++ Array.replicate (f.ntmps - (γL E ρ l).toArray.size) undef,defers:=[] } _ hs hf (by simp[γL_length];omega) rfl ?_
  rintro a1 w1 ⟨ρ1,f1,n1,d1,s1,x1⟩
  obtain⟨e1,b1⟩:=js hY hrs s1 f1 hvs
  rw[hvγ]at e1
  have:bodyPost P f (fun e w'=>∃ ρ',e=.returned (v.γ E ρ')/\Sat E ρ' h1 w'/\Ext ρ h w ρ' h1 w'/\v.bd h1.n.toNat) .ret a1 w1:=⟨d1,_,e1,ρ1,rfl,s1,x1,hvb _ b1⟩
  rcases hae with h | h <;> rw[h] <;> exact this
 cases e with
 | goto l=>exact absurd (show Nat.succ _=0 from hk1) (by simp)
 | ae e=>
  cases e with
  | normal=>exact fin (.inl rfl) hk1
  | ret=>exact fin (.inr rfl) hk1
  | exit i=>exact absurd (show Nat.succ _=0 from hk1) (by simp)
end Go.Ev
end
set_option linter.unusedSimpArgs false
set_option linter.unusedVariables false
noncomputable section
namespace Go.Ev
open Go
theorem jA {α:Type} {p:α->Bool}:∀ {l:List α},yP p l=true->∀ x∈l,p x=true
 | [],_,x,hx=>by cases hx
 | a::r,h,x,hx=>by
  obtain⟨h1,h2⟩:p a=true/\yP p r=true:=by
   have h:bc (p a) (yP p r) false=true:=h
   cases hp:p a <;> rw[hp]at h
   ·cases h
   ·exact⟨rfl,h⟩
  rcases List.mem_cons.1 hx with rfl | hx
  ·exact h1
  ·exact jA h2 x hx
def rngF (a:Nat):Nat->List Nat
 | 0=>[]
 | n+1=>a::rngF (a+1) n
def rng (n:Nat):List Nat:=rngF 0 n
theorem ztN:∀ {n a j:Nat},a<=j->j<a+n->j∈rngF a n
 | 0,a,j,h1,h2=>by omega
 | n+1,a,j,h1,h2=>by
  by_cases h:j=a
  ·subst h;exact List.mem_cons_self ..
  ·exact List.mem_cons_of_mem _ (ztN (by omega) (by omega))
theorem rngF_ok {p:Nat->Bool} {a n:Nat} (h:yP p (rngF a n)=true):∀ j,a<=j->j<a+n->p j=true:=fun j h1 h2=>jA h j (ztN h1 h2)
theorem rng_ok {p:Nat->Bool} {n:Nat} (h:yP p (rng n)=true):∀ j,j<n->p j=true:=fun j hj=>rngF_ok h j (Nat.zero_le _) (by omega)
end Go.Ev
end
set_option linter.unusedSimpArgs false
set_option linter.unusedVariables false
noncomputable section
namespace Go.Ev
open Go Go.RowKit
inductive ZC where
 | hole | seqL (z:ZC) (b:Code) | seqR (a:Code) (z:ZC) | block (i:Nat) (z:ZC)
def ZC.plug (x:Code):ZC->Code
 | .hole=>x
 | .seqL z b=>.seq (z.plug x) b
 | .seqR a z=>.seq a (z.plug x)
 | .block i z=>.block i (z.plug x)
def ZC.drB (dr:Nat->Option Dr):ZC->Bool
 | .hole=>true
 | .seqL z b=>z.drB dr && zH dr b
 | .seqR a z=>zH dr a && z.drB dr
 | .block _ z=>z.drB dr
inductive ZI where
 | hole | seqL (z:ZI) (b:IC) | seqR (a:IC) (z:ZI) | block (i:Nat) (z:ZI)
def zGo (Y:Ty) (N:Nat) (dr:Nat->Option Dr):ZC->ZI
 | .hole=>.hole
 | .seqL z b=>.seqL (zGo Y N dr z) (yo Y N dr b)
 | .seqR a z=>.seqR (yo Y N dr a) (zGo Y N dr z)
 | .block i z=>.block i (zGo Y N dr z)
def kSeq (b:IC) (g:Ctx) (ko:K2):K2:=fun e fr h fa=>je e (jp b g fr h fa ko) (ko .ret fr h fa) (fun i=>ko (.exit i) fr h fa)
def kBlk (i:Nat) (ko:K2):K2:=fun e fr h fa=>je e (ko .normal fr h fa) (ko .ret fr h fa) (fun j=>bc (Nat.beq j i) (ko .normal fr h fa) (ko (.exit j) fr h fa))
def zIn:ZI->Ctx->Fr->H->Fa->K1->K2->Nat
 | .hole,_,fr,h,fa,k,_=>k fr h fa
 | .seqL z b,g,fr,h,fa,k,ko=>zIn z g fr h fa k (kSeq b g ko)
 | .seqR a z,g,fr,h,fa,k,ko=>jp a g fr h fa (fun e fr h fa=>je e (zIn z g fr h fa k ko) (ko .ret fr h fa) (fun i=>ko (.exit i) fr h fa))
 | .block i z,g,fr,h,fa,k,ko=>zIn z g fr h fa k (kBlk i ko)
def zjb:ZI->Ctx->K2->K2
 | .hole,_,ko=>ko
 | .seqL z b,g,ko=>zjb z g (kSeq b g ko)
 | .seqR _ z,g,ko=>zjb z g ko
 | .block i z,g,ko=>zjb z g (kBlk i ko)
abbrev Sg:=Nat->Option SE
def sbE (σ:Sg):SE->Option SE
 | .v i=>σ i
 | .lit n=>some (.lit n)
 | .op o k a b=>match sbE σ a,sbE σ b with
  | some a,some b=>some (.op o k a b)
  | _,_=>none
 | .cv k a=>match sbE σ a with
  | some a=>some (.cv k a)
  | none=>none
 | .mm x a b=>match sbE σ a,sbE σ b with
  | some a,some b=>some (.mm x a b)
  | _,_=>none
def sbB (σ:Sg):SB->Option SB
 | .v i=>some (.v i)
 | .cmp o a b=>match sbE σ a,sbE σ b with
  | some a,some b=>some (.cmp o a b)
  | _,_=>none
 | .not a=>match sbB σ a with
  | some a=>some (.not a)
  | none=>none
 | .and a b=>match sbB σ a,sbB σ b with
  | some a,some b=>some (.and a b)
  | _,_=>none
def mE (σ:Sg) (e u:SE):Bool:=match sbE σ e with
 | some s=>SE.beq s u
 | none=>false
mutual
def mV (σ:Sg):V->V->Bool
 | .b x,.b y=>zmg x y
 | .i k n,.i k' n'=>kEq k k' && iEq n n'
 | .sb c,.sb c'=>match sbB σ c with
  | some s=>SB.beq s c'
  | none=>false
 | .si k e,.si k' e'=>kEq k k' && mE σ e e'
 | .si k e,.i k' n=>kEq k k' && mE σ e (.lit n)
 | .ptr a o,.ptr b o'=>pEq a b && Nat.beq o o'
 | .nil,.nil=>true
 | .sl a o n c,.sl a' o' n' c'=>pEq a a' && Nat.beq o o' && Nat.beq n n' && Nat.beq c c'
 | .vec a n,.vec a' n'=>pEq a a' && Nat.beq n n'
 | .vt a o n,.vt a' o' n'=>pEq a a' && Nat.beq o o' && Nat.beq n n'
 | .snil,.snil=>true
 | .fn F p c,.fn F' p' c'=>Nat.beq F F' && mL σ p p' && mL σ c c'
 | .fnil,.fnil=>true
 | .agg l,.agg l'=>mL σ l l'
 | .tup l,.tup l'=>mL σ l l'
 | .fs a q,.fs a' q'=>pEq a a' && Nat.beq q q' && Nat.blt q 50
 | .mp a,.mp b=>pEq a b
 | .mnil,.mnil=>true
 | _,_=>false
def mL (σ:Sg):List V->List V->Bool
 | [],[]=>true
 | x::r,y::s=>mV σ x y && mL σ r s
 | _,_=>false
end
def mTrN (σ:Sg) (z':V):Tr V->Bool
 | .nil=>true
 | .leaf a=>mV σ a z'
 | .node l r=>mTrN σ z' l && mTrN σ z' r
def mTr (σ:Sg) (z':V):Tr V->Tr V->Bool
 | t,.nil=>mTrN σ z' t
 | .leaf a,.leaf b=>mV σ a b
 | .node l r,.node l' r'=>mTr σ z' l l' && mTr σ z' r r'
 | _,_=>false
def mP (σ:Sg):List (V × V)->List (V × V)->Bool
 | [],[]=>true
 | (a,b)::r,(c,d)::s=>mV σ a c && mV σ b d && mP σ r s
 | _,_=>false
def trNilB (t:Tr V):Bool:=match t with
 | .nil=>true
 | _=>false
def renB (σ:Sg) (q q':Nat):Bool:=match σ (100000+q) with
 | some (.lit n)=>iEq n (.ofNat q')
 | _=>false
def mO (σ:Sg):O->O->Bool
 | .cells t l,.cells t' l'=>Nat.beq t t' && mL σ l l'
 | .arr t n d z tr,.arr t' n' d' z' tr'=>Nat.beq t t' && Nat.beq n n' && Nat.beq d d' && mV σ z z' && mTr σ z' tr tr'
 | .vec t e n l,.vec t' e' n' l'=>Nat.beq t t' && Nat.beq e e' && Nat.beq n n' && mL σ l l'
 | .varr t n d z tr,.varr t' n' d' z' tr'=>Nat.beq t t' && Nat.beq n n' && Nat.beq d d' && mV σ z z' && mTr σ z' tr tr'
 | .row q z N _ _,.row q' z' N' _ _=>Nat.beq q q' && Nat.beq z z' && mE σ N N' && Nat.blt q 50
 | .oa t q n d tr,.oa t' q' n' d' tr'=>Nat.beq t t' && Nat.beq n n' && Nat.beq d d' && trNilB tr && trNilB tr' && Nat.ble 50 q && renB σ q q'
 | .map l,.map l'=>mP σ l l'
 | .dead,.dead=>true
 | _,_=>false
def ze7 (n:P):Tr V->Bool
 | .nil=>true
 | .leaf a=>a.bdB n
 | .node l r=>ze7 n l && ze7 n r
def oBdB (n:P):O->Bool
 | .cells _ l=>zbe n l
 | .arr _ _ _ z tr=>z.bdB n && ze7 n tr
 | .vec _ _ _ l=>zbe n l
 | .varr _ _ _ z tr=>z.bdB n && ze7 n tr
 | .row _ _ _ _ l=>zbe n l
 | .oa _ _ _ _ tr=>ze7 n tr
 | .map l=>yP (fun p:V × V=>p.1.bdB n && p.2.bdB n) l
 | .x _=>false
 | .dead=>true
def ziG (q:P->O->Bool) (f:P->P):PT O->Bool
 | .e=>true
 | .n v l r=>(match v with
  | some o=>q (f .h) o
  | none=>true) && ziG q (fun p=>f (.o p)) l && ziG q (fun p=>f (.i p)) r
structure GS where
 fr:List (Ky × V)
 h:H
def frOf (l:List (Ky × V)) (k:Fr->Nat):Nat:=yC (fun fr k=>k fr) (fun p _ ih fr k=>pc p (fun q v=>zb7 q fr v (fun fr=>ih fr k))) l Fr.e k
def zfy (S:GS) (σ:Sg) (fr:Fr) (h:H):Bool:=
 hc S.h (fun n lo t=>hc h (fun _ lo' t'=>pEq lo lo' &&
  yP (fun p:Ky × V=>p.2.bdB n && (match fr.get p.1 with
   | some u=>mV σ p.2 u
   | none=>false)) S.fr &&
  ziG (fun p o=>pLt p n && oBdB n o && (match t'.get p with
   | some u=>mO σ o u
   | none=>false)) (fun p=>p) t))
def zfw (st:Nat->GS) (nx:List (Nat × Sg)) (fr:Fr) (h:H):Nat:=jM 1 (fun _ _=>bc (yP (fun p:Nat × Sg=>zfy (st p.1) p.2 fr h) nx) 0 1) nx
def runJ (st:Nat->GS) (x:IC) (z:ZI) (ko:K2) (g:Ctx) (j:Nat) (fa:Fa) (nx:List (Nat × Sg)):Nat:=
 frOf (st j).fr (fun fr=>jp x g fr (st j).h fa (fun e fr h fa=>je e (zfw st nx fr h) (zjb z g ko .ret fr h fa) (fun i=>zjb z g ko (.exit i) fr h fa)))
variable {E E':Env} {P:Program} {N:Nat}
def zlG (a b:Row):Prop:=a.b=b.b/\a.off=b.off/\a.len=b.len/\a.cap=b.cap/\a.esz=b.esz/\a.t=b.t/\a.cs=b.cs/\a.fz=b.fz
structure TrE (σ:Sg) (E E':Env):Prop where
 i:∀ i s,σ i=some s->E'.i i=s.den E
 b:E'.b=E.b
 s:∀ q,q<50->zlG (E'.s q) (E.s q)
 r:∀ q q',50<=q->σ (100000+q)=some (.lit (.ofNat q'))->(E'.s q).cs=(E.s q').cs
theorem zb8 {σ:Sg} (t:TrE σ E E'):∀ {e u:SE},sbE σ e=some u->u.den E=e.den E'
 | .v i,u,h=>(t.i i u h).symm
 | .lit n,u,h=>by simp[sbE]at h;subst h;rfl
 | .op o k a b,u,h=>by
  simp only[sbE]at h
  split at h
  ·rename_i x y hx hy
   simp at h;subst h
   simp only[SE.den,zb8 t hx,zb8 t hy]
  ·simp at h
 | .cv k a,u,h=>by
  simp only[sbE]at h
  split at h
  ·rename_i x hx
   simp at h;subst h
   simp only[SE.den,zb8 t hx]
  ·simp at h
 | .mm x a b,u,h=>by
  simp only[sbE]at h
  split at h
  ·rename_i p q hp hq
   simp at h;subst h
   cases x <;> simp only[SE.den,zb8 t hp,zb8 t hq]
  ·simp at h
theorem zjl {σ:Sg} (t:TrE σ E E'):∀ {c u:SB},sbB σ c=some u->u.den E=c.den E'
 | .v i,u,h=>by simp[sbB]at h;subst h;simp only[SB.den,t.b]
 | .cmp o a b,u,h=>by
  simp only[sbB]at h
  split at h
  ·rename_i x y hx hy
   simp at h;subst h
   simp only[SB.den,zb8 t hx,zb8 t hy]
  ·simp at h
 | .not a,u,h=>by
  simp only[sbB]at h
  split at h
  ·rename_i x hx
   simp at h;subst h
   simp only[SB.den,zjl t hx]
  ·simp at h
 | .and a b,u,h=>by
  simp only[sbB]at h
  split at h
  ·rename_i x y hx hy
   simp at h;subst h
   simp only[SB.den,zjl t hx,zjl t hy]
  ·simp at h
theorem zwu {σ:Sg} (t:TrE σ E E') {e u:SE} (h:mE σ e u=true):u.den E=e.den E':=by
 unfold mE at h
 split at h
 ·rename_i s hs
  rw[<- SE.beq_eq h];exact zb8 t hs
 ·cases h
mutual
theorem zcc {σ:Sg} (t:TrE σ E E') (ρ:Rho):∀ {v u:V},mV σ v u=true->u.γ E ρ=v.γ E' ρ
 | .b x,u,h=>by cases u <;> simp only[mV]at h <;> first | (simp at h;done) | rw[zeU h];rfl
 | .i k n,u,h=>by
  cases u <;> simp only[mV,Bool.and_eq_true]at h <;> first | (simp at h;done) | skip
  have h2:=h.2
  rw[jb]at h2
  rw[yn h.1,of_decide_eq_true h2];rfl
 | .sb c,u,h=>by
  cases u <;> simp only[mV]at h <;> first | (simp at h;done) | skip
  split at h
  ·rename_i s hs
   simp only[V.γ,<- zjl t hs,SB.beq_eq h]
  ·cases h
 | .si k e,u,h=>by
  cases u <;> simp only[mV,Bool.and_eq_true]at h <;> first | (simp at h;done) | skip
  ·have h2:=zwu t h.2
   simp only[V.γ,<- h2,yn h.1,SE.den]
  ·simp only[V.γ,zwu t h.2,yn h.1]
 | .ptr a o,u,h=>by
  cases u <;> simp only[mV,Bool.and_eq_true,Nat.beq_eq]at h <;> first | (simp at h;done) | skip
  rw[jn h.1,h.2];rfl
 | .nil,u,h=>by cases u <;> simp only[mV]at h <;> first | (simp at h;done) | rfl
 | .sl a o n c,u,h=>by
  cases u <;> simp only[mV,Bool.and_eq_true,Nat.beq_eq]at h <;> first | (simp at h;done) | skip
  rw[jn h.1.1.1,h.1.1.2,h.1.2,h.2];rfl
 | .vec a n,u,h=>by
  cases u <;> simp only[mV,Bool.and_eq_true,Nat.beq_eq]at h <;> first | (simp at h;done) | skip
  rw[jn h.1,h.2];rfl
 | .vt a o n,u,h=>by
  cases u <;> simp only[mV,Bool.and_eq_true,Nat.beq_eq]at h <;> first | (simp at h;done) | skip
  rw[jn h.1.1,h.1.2,h.2];rfl
 | .snil,u,h=>by cases u <;> simp only[mV]at h <;> first | (simp at h;done) | rfl
 | .fn F p c,u,h=>by
  cases u <;> simp only[mV,Bool.and_eq_true,Nat.beq_eq]at h <;> first | (simp at h;done) | skip
  simp only[V.γ,h.1.1,zfz t ρ h.1.2,zfz t ρ h.2]
 | .fnil,u,h=>by cases u <;> simp only[mV]at h <;> first | (simp at h;done) | rfl
 | .agg l,u,h=>by
  cases u <;> simp only[mV]at h <;> first | (simp at h;done) | skip
  simp only[V.γ,zfz t ρ h]
 | .tup l,u,h=>by
  cases u <;> simp only[mV]at h <;> first | (simp at h;done) | skip
  simp only[V.γ,zfz t ρ h]
 | .fs a q,u,h=>by
  cases u <;> simp only[mV,Bool.and_eq_true,Nat.beq_eq]at h <;> first | (simp at h;done) | skip
  obtain⟨s1,s2,s3,s4,s5,s6,s7,s8⟩:=t.s q (by simpa using h.2)
  simp only[V.γ,<- h.1.2,s1,s2,s3,s4]
 | .fp a q o,u,h=>by cases u <;> simp only[mV]at h <;> (simp at h;done)
 | .mp a,u,h=>by
  cases u <;> simp only[mV]at h <;> first | (simp at h;done) | skip
  rw[jn h];rfl
 | .mnil,u,h=>by cases u <;> simp only[mV]at h <;> first | (simp at h;done) | rfl
 | .yd a,u,h=>by cases u <;> simp only[mV]at h <;> (simp at h;done)
theorem zfz {σ:Sg} (t:TrE σ E E') (ρ:Rho):∀ {l m:List V},mL σ l m=true->γL E ρ m=γL E' ρ l
 | [],m,h=>by cases m <;> simp only[mL]at h <;> first | (simp at h;done) | rfl
 | x::r,m,h=>by
  cases m <;> simp only[mL,Bool.and_eq_true]at h <;> first | (simp at h;done) | skip
  simp only[γL,zcc t ρ h.1,zfz t ρ h.2]
end
theorem mL_len {σ:Sg}:∀ {l m:List V},mL σ l m=true->m.length=l.length
 | [],m,h=>by cases m <;> simp only[mL]at h <;> first | (simp at h;done) | rfl
 | x::r,m,h=>by
  cases m <;> simp only[mL,Bool.and_eq_true]at h <;> first | (simp at h;done) | skip
  simp[mL_len h.2]
theorem zaw {l r:Tr V} {d:Nat} {z:V} {i:Nat}:yH (.node l r) (d+1) z i=if zcF i=true then yH l d z (i / 2) else yH r d z (i / 2):=by
 show (Bool.rec (motive:=fun _=>Option V) (r.get d (Nat.div i 2)) (l.get d (Nat.div i 2)) (zcF i)).getD z=_
 cases zcF i <;> rfl
theorem zlX {σ:Sg} (t:TrE σ E E') (ρ:Rho) {z z':V} (hz:mV σ z z'=true):∀ {a:Tr V} (d i:Nat),mTrN σ z' a=true->z'.γ E ρ=(yH a d z i).γ E' ρ
 | .nil,d,i,h=>by
  have:yH (.nil:Tr V) d z i=z:=by unfold yH;rw[Tr.get_nil];rfl
  rw[this];exact zcc t ρ hz
 | .leaf x,d,i,h=>by
  cases d with
  | zero=>exact zcc t ρ h
  | succ d=>exact zcc t ρ hz
 | .node l r,d,i,h=>by
  simp only[mTrN,Bool.and_eq_true]at h
  cases d with
  | zero=>exact zcc t ρ hz
  | succ d=>
   rw[zaw]
   split
   ·exact zlX t ρ hz d _ h.1
   ·exact zlX t ρ hz d _ h.2
theorem zlW {σ:Sg} (t:TrE σ E E') (ρ:Rho) {z z':V} (hz:mV σ z z'=true):∀ {a b:Tr V} (_:mTr σ z' a b=true) (d i:Nat),(yH b d z' i).γ E ρ=(yH a d z i).γ E' ρ
 | a,.nil,h,d,i=>by
  have h:mTrN σ z' a=true:=by cases a <;> exact h
  have:yH (.nil:Tr V) d z' i=z':=by unfold yH;rw[Tr.get_nil];rfl
  rw[this];exact zlX t ρ hz d i h
 | .leaf x,.leaf y,h,d,i=>by
  cases d with
  | zero=>exact zcc t ρ h
  | succ d=>exact zcc t ρ hz
 | .node l r,.node l' r',h,d,i=>by
  simp only[mTr,Bool.and_eq_true]at h
  cases d with
  | zero=>exact zcc t ρ hz
  | succ d=>
   rw[zaw,zaw]
   split
   ·exact zlW t ρ hz h.1 d _
   ·exact zlW t ρ hz h.2 d _
 | .nil,.leaf y,h,d,i=>by simp[mTr]at h
 | .nil,.node l r,h,d,i=>by simp[mTr]at h
 | .leaf x,.node l r,h,d,i=>by simp[mTr]at h
 | .node l r,.leaf y,h,d,i=>by simp[mTr]at h
theorem zdd {n:Ev.P}:∀ {a:Tr V} (d i:Nat) (v:V),ze7 n a=true->a.get d i=some v->v.bd n.toNat
 | .nil,d,i,v,h,hg=>by cases d <;> cases hg
 | .leaf x,d,i,v,h,hg=>by
  cases d with
  | zero=>have hg:some x=some v:=hg;cases hg;exact zco _ h
  | succ d=>cases hg
 | .node l r,d,i,v,h,hg=>by
  simp only[ze7,Bool.and_eq_true]at h
  cases d with
  | zero=>cases hg
  | succ d=>
   have hg:Bool.rec (motive:=fun _=>Option V) (r.get d (Nat.div i 2)) (l.get d (Nat.div i 2)) (zcF i)=some v:=hg
   cases he:zcF i with
   | true=>rw[he]at hg;exact zdd d _ v h.1 hg
   | false=>rw[he]at hg;exact zdd d _ v h.2 hg
theorem oBd_ok {n:Ev.P} {o:O} (h:oBdB n o=true):o.bd n.toNat:=by
 cases o with
 | cells t l=>exact zaD l h
 | arr t m d z tr=>
  simp only[oBdB,Bool.and_eq_true]at h
  exact⟨zco z h.1,fun i v _ hv=>zdd d i v h.2 hv⟩
 | vec t e m l=>exact zaD l h
 | varr t m d z tr=>
  simp only[oBdB,Bool.and_eq_true]at h
  exact⟨zco z h.1,fun i v _ hv=>zdd d i v h.2 hv⟩
 | row q z N I l=>exact zaD l h
 | oa t q m d tr=>exact fun i v _ hv=>zdd d i v h hv
 | map l=>
  intro p hp
  have:=(zcD _ _).1 h p hp
  simp only[Bool.and_eq_true]at this
  exact⟨zco _ this.1,zco _ this.2⟩
 | x o=>cases h
 | dead=>trivial
theorem mP_ok {σ:Sg} (t:TrE σ E E') (ρ:Rho):∀ {l m:List (V × V)},mP σ l m=true->m.map (fun p=>(p.1.γ E ρ,p.2.γ E ρ))=l.map (fun p=>(p.1.γ E' ρ,p.2.γ E' ρ))
 | [],m,h=>by cases m <;> simp only[mP]at h <;> first | (simp at h;done) | rfl
 | (a,b)::r,m,h=>by
  cases m with
  | nil=>simp[mP]at h
  | cons p s=>
   obtain⟨c,d⟩:=p
   simp only[mP,Bool.and_eq_true]at h
   simp only[List.map_cons,zcc t ρ h.1.1,zcc t ρ h.1.2,mP_ok t ρ h.2]
theorem zwt {σ:Sg} {o u:O} (h:mO σ o u=true):u.live=o.live:=by
 cases o <;> cases u <;> simp only[mO]at h <;> first | (simp at h;done) | rfl
theorem mO_mine {σ:Sg} {o u:O} (h:mO σ o u=true):u.mine=o.mine:=by
 cases o <;> cases u <;> simp only[mO]at h <;> first | (simp at h;done) | rfl
def zw2 (E:Env) (o:O):Prop:=match o with
 | .row q z N I l=>l≠[]->I.den E=(E.s q).idx/\(E.s q).idx<(E.s q).len/\l.length=z/\∀ ρ i,i<l.length->(E.s q).cs[(E.s q).off+(E.s q).idx*z+i]? = (l[i]?).map (V.γ E ρ)
 | _=>True
theorem mO_is {σ:Sg} (t:TrE σ E E') {ρ:Rho} {L:Pl} {hp:Array Obj} {o u:O} (h:mO σ o u=true) (hr:zw2 E' o) (hi:u.Is E ρ L hp):o.Is E' ρ L hp:=by
 cases o <;> cases u <;> simp only[mO,Bool.and_eq_true,Nat.beq_eq]at h <;> first | (simp at h;done) | skip
 ·-- cells
  obtain⟨rfl,h2⟩:=h
  simp only[O.Is]at hi ⊢
  rw[<- zfz t ρ h2];exact hi
 ·-- arr
  obtain⟨⟨⟨⟨rfl,rfl⟩,rfl⟩,h4⟩,h5⟩:=h
  obtain⟨g1,cs,g2,g3,g4⟩:=hi
  exact⟨g1,cs,g2,g3,fun i hi=>by rw[g4 i hi,zlW t ρ h4 h5]⟩
 ·-- vec
  obtain⟨⟨⟨rfl,rfl⟩,rfl⟩,h4⟩:=h
  obtain⟨cs,g2,g3,g4,g5,g6,g7⟩:=hi
  have hl:=mL_len h4
  have hγ:=zfz t ρ h4
  refine⟨cs,g2,g3,g4,g5,by rw[<- hl];exact g6,fun i hi=>?_⟩
  rw[g7 i (by rw[hl];exact hi),<- γL_get,<- γL_get,hγ]
 ·-- varr
  obtain⟨⟨⟨⟨rfl,rfl⟩,rfl⟩,h4⟩,h5⟩:=h
  obtain⟨g1,cs,g2,g3,g4,g5,g6⟩:=hi
  exact⟨g1,cs,g2,g3,g4,g5,fun i hi=>by rw[g6 i hi,zlW t ρ h4 h5]⟩
 ·-- row
  rename_i q z M I l q' z' M' I' l'
  obtain⟨⟨⟨rfl,rfl⟩,h3⟩,h4⟩:=h
  obtain⟨g1,g2,g3,g4,g5⟩:=hi
  obtain⟨s1,s2,s3,s4,s5,s6,s7,s8⟩:=t.s q (by simpa using h4)
  refine⟨g1.trans s1.symm,by rw[s6,s7,s8];exact g2,s5.trans g3,by rw[<- zwu t h3,s3];exact g4,fun hl=>?_⟩
  obtain⟨r1,r2,r3,r4⟩:=hr hl
  exact⟨r1,r2,r3,fun i hi=>r4 ρ i hi⟩
 ·-- oa
  rename_i t1 q1 n1 d1 tr1 t2 q2 n2 d2 tr2
  obtain⟨⟨⟨⟨⟨⟨rfl,rfl⟩,rfl⟩,h4⟩,h5⟩,h6⟩,h7⟩:=h
  have e1:tr1=.nil:=by cases tr1 <;> first | rfl | (cases h4;done)
  have e2:tr2=.nil:=by cases tr2 <;> first | rfl | (cases h5;done)
  subst e1 e2
  have h6:50<=q1:=by simpa using h6
  have hr:σ (100000+q1)=some (.lit (.ofNat q2)):=by
   unfold renB at h7
   split at h7
   ·rename_i n hn
    rw[jb]at h7
    rw[hn,of_decide_eq_true h7]
   ·cases h7
  have hcs:=t.r q1 q2 h6 hr
  obtain⟨g1,cs,g2,g3,g4,g5⟩:=hi
  refine⟨g1,cs,g2,g3,by rw[hcs];exact g4,fun i hi=>?_⟩
  rw[g5 i hi]
  unfold zf7
  rw[Tr.get_nil,hcs]
 ·-- map
  obtain⟨es,g1,g2,g3⟩:=hi
  exact⟨es,g1,by rw[<- mP_ok t ρ h];exact g2,g3⟩
 ·trivial
theorem zds {q:Ev.P->O->Bool}:∀ (t:PT O) (f:Ev.P->Ev.P) (p:Ev.P) (o:O),ziG q f t=true->t.get p=some o->q (f p) o=true
 | .e,f,p,o,h,hg=>by rw[PT.get_e]at hg;cases hg
 | .n v l r,f,p,o,h,hg=>by
  simp only[ziG,Bool.and_eq_true]at h
  obtain⟨⟨h1,h2⟩,h3⟩:=h
  cases p with
  | h=>
   have hg:v=some o:=hg
   rw[hg]at h1;exact h1
  | o p=>exact zds l (fun p=>f (.o p)) p o h2 hg
  | i p=>exact zds r (fun p=>f (.i p)) p o h3 hg
def FrL (E:Env) (ρ:Rho) (n:Nat) (l:List (Ky × V)) (tmps:Array Value):Prop:=∀ t v,(zp t,v)∈l->tmps[t]? = some (v.γ E ρ)/\v.bd n
theorem zwM:∀ (l:List (Ky × V)) (fr:Fr) (k:Fr->Nat),yC (fun fr k=>k fr) (fun (p:Ky × V) _ ih fr k=>pc p (fun q v=>zb7 q fr v (fun fr=>ih fr k))) l fr k=0->∃ fr',k fr'=0/\∀ q v,fr'.get q=some v->(q,v)∈l\/fr.get q=some v
 | [],fr,k,h=>⟨fr,h,fun q v hv=>.inr hv⟩
 | (q0,v0)::r,fr,k,h=>by
  have h:zb7 q0 fr v0 (fun fr=>yC (fun fr k=>k fr) (fun (p:Ky × V) _ ih fr k=>pc p (fun q v=>zb7 q fr v (fun fr=>ih fr k))) r fr k)=0:=h
  obtain⟨fr1,h,g1,g2⟩:=zbH h
  obtain⟨fr',h1,h2⟩:=zwM r fr1 k h
  refine⟨fr',h1,fun q v hv=>?_⟩
  rcases h2 q v hv with h3 | h3
  ·exact .inl (List.mem_cons_of_mem _ h3)
  ·by_cases hq:q=q0
   ·subst hq
    rw[g1]at h3
    cases h3
    exact .inl (List.mem_cons_self ..)
   ·rw[g2 q hq]at h3;exact .inr h3
theorem frOf_ok {l:List (Ky × V)} {k:Fr->Nat} (h:frOf l k=0):∃ fr,k fr=0/\∀ q v,fr.get q=some v->(q,v)∈l:=by
 obtain⟨fr,h1,h2⟩:=zwM l .e k h
 refine⟨fr,h1,fun q v hv=>?_⟩
 rcases h2 q v hv with h3 | h3
 ·exact h3
 ·rw[Fr.get_e]at h3;cases h3
structure Wd (w0:World) (Lo:Ev.P) (ρ:Rho) (h:H) (w:World):Prop where
 lo:h.lo=Lo
 os:w.os=w0.os
 tape:w.tape=w0.tape
 output:w.output=w0.output
 size:w0.heap.size<=w.heap.size
 keep:∀ b,b<w0.heap.size->w.heap[b]? = w0.heap[b]?
 new:∀ p o,h.t.get p=some o->o.live=true->Lo.toNat<=p.toNat->w0.heap.size<=(ρ p).b
theorem Wd.step {w0:World} {lo:Ev.P} {ρ ρ':Rho} {h h':H} {w w':World} (d:Wd w0 lo ρ h w) (x:Ext ρ h w ρ' h' w'):Wd w0 lo ρ' h' w':=by
 refine⟨x.lo.trans d.lo,x.os.trans d.os,x.tape.trans d.tape,x.output.trans d.output,Nat.le_trans d.size x.size,fun b hb=>?_,fun p o hp hl hlo=>?_⟩
 ·rw[x.keep b (Nat.lt_of_lt_of_le hb d.size) (fun p o hp hl hlo=>by have:=d.new p o hp hl (by rw[<- d.lo];exact hlo);omega)]
  exact d.keep b hb
 ·by_cases hn:p.toNat<h.n.toNat
  ·obtain⟨o',h1,h2⟩:=x.liv p o hn hp hl
   rw[x.agree p hn];exact d.new p o' h1 h2 hlo
  ·rcases x.new p o (by omega) hp hl with h1 | ⟨q,o',h1,h2,h3,h4⟩
   ·exact Nat.le_trans d.size h1
   ·rw[<- h4];exact d.new q o' h1 h2 (by rw[<- d.lo];exact h3)
theorem ztQ {S:GS} {σ:Sg} {fr:Fr} {h:H} (hm:zfy S σ fr h=true) (t:TrE σ E E') (hrow:∀ p o,S.h.t.get p=some o->zw2 E' o) {w0:World} {lo:Ev.P} {ρ:Rho} {w:World} {tmps:Array Value} (d:Wd w0 lo ρ h w) (hs:Sat E ρ h w) (hf:zw E ρ h.n.toNat fr tmps) :
  Wd w0 lo ρ S.h w/\Sat E' ρ S.h w/\FrL E' ρ S.h.n.toNat S.fr tmps:=by
 unfold zfy at hm
 rw[jX,jX]at hm
 simp only[Bool.and_eq_true]at hm
 obtain⟨⟨hlo,hfr⟩,hh⟩:=hm
 have hlo:=jn hlo
 have obj:∀ p o,S.h.t.get p=some o->p.toNat<S.h.n.toNat/\o.bd S.h.n.toNat/\∃ u,h.t.get p=some u/\mO σ o u=true:=by
  intro p o hp
  have:=zds _ _ p o hh hp
  simp only[Bool.and_eq_true]at this
  obtain⟨⟨h1,h2⟩,h3⟩:=this
  refine⟨by simpa [pLt] using h1,oBd_ok h2,?_⟩
  cases hu:h.t.get p with
  | none=>rw[hu]at h3;cases h3
  | some u=>rw[hu]at h3;exact⟨u,rfl,h3⟩
 refine⟨⟨hlo.trans d.lo,d.os,d.tape,d.output,d.size,d.keep,fun p o hp hl hl2=>?_⟩,⟨fun p o hp=>?_,fun p q o o' hp hq l1 l2 he=>?_,fun p o hp=>⟨(obj p o hp).1,(obj p o hp).2.1⟩⟩,fun t' v hv=>?_⟩
 ·obtain⟨_,_,u,hu,hm⟩:=obj p o hp
  exact d.new p u hu (by rw[zwt hm];exact hl) hl2
 ·obtain⟨_,_,u,hu,hm⟩:=obj p o hp
  exact mO_is t hm (hrow p o hp) (hs.obj p u hu)
 ·obtain⟨_,_,u,hu,hm⟩:=obj p o hp
  obtain⟨_,_,u',hu',hm'⟩:=obj q o' hq
  exact hs.inj p q u u' hu hu' (by rw[mO_mine hm];exact l1) (by rw[zwt hm'];exact l2) he
 ·have:=jA hfr _ hv
  simp only[Bool.and_eq_true]at this
  obtain⟨h1,h2⟩:=this
  cases hu:fr.get (zp t') with
  | none=>rw[hu]at h2;cases h2
  | some u=>
   rw[hu]at h2
   obtain⟨h3,_⟩:=hf t' u hu
   exact⟨by rw[h3,zcc t ρ h2],zco v h1⟩
def zdN (E:Env) (P:Program) (N:Nat) (w0:World) (lo:Ev.P) (ko:K2) (QQ:Exit->Act->World->Prop):Prop:=
 ∀ ae fr h fa,ko ae fr h fa=0->FaOk E fa->∀ ρ w (a:Act),Wd w0 lo ρ h w->Sat E ρ h w->zw E ρ h.n.toNat fr a.tmps->N<=a.tmps.size->a.defers=[]->QQ (AE.exit' ae) a w
def zge (P:Program):ZC->(Exit->Act->World->Prop)->Exit->Act->World->Prop
 | .hole,QQ=>QQ
 | .seqL z b,QQ=>zge P z (Exit.then (b.wp P QQ) QQ)
 | .seqR _ z,QQ=>zge P z QQ
 | .block i z,QQ=>zge P z (Exit.inBlock i QQ)
theorem zmz {Y:Ty} (hY:TyOk P Y) (hm:P.follows .mixedOrders=true) {dr:Nat->Option Dr} {g:Ctx} (hcall:zi E P g.call) {b:Code} (hB:zH dr b=true) {w0:World} {lo:Ev.P} {ko:K2} {QQ:Exit->Act->World->Prop} (h:zdN E P N w0 lo ko QQ) :
  zdN E P N w0 lo (kSeq (yo Y N dr b) g ko) (Exit.then (b.wp P QQ) QQ):=by
 intro ae fr hh fa hk hfa ρ w a d hs hf hN hd
 cases ae with
 | normal=>
  obtain⟨ae,fr1,h1,fa1,hk1,hfa1,r1⟩:=yF hY hm hcall b fr hh fa ko hB hfa hk
  refine r1 ρ w a QQ hs hf hN hd ?_
  rintro a' w' ⟨ρ',f1,n1,d1,s1,x1⟩
  exact h ae fr1 h1 fa1 hk1 hfa1 ρ' w' a' (d.step x1) s1 f1 n1 d1
 | ret=>exact h .ret fr hh fa hk hfa ρ w a d hs hf hN hd
 | exit i=>exact h (.exit i) fr hh fa hk hfa ρ w a d hs hf hN hd
theorem zus {i:Nat} {w0:World} {lo:Ev.P} {ko:K2} {QQ:Exit->Act->World->Prop} (h:zdN E P N w0 lo ko QQ):zdN E P N w0 lo (kBlk i ko) (Exit.inBlock i QQ):=by
 intro ae fr hh fa hk hfa ρ w a d hs hf hN hd
 cases ae with
 | normal=>exact h .normal fr hh fa hk hfa ρ w a d hs hf hN hd
 | ret=>exact h .ret fr hh fa hk hfa ρ w a d hs hf hN hd
 | exit j=>
  have hk:bc (Nat.beq j i) (ko .normal fr hh fa) (ko (.exit j) fr hh fa)=0:=hk
  show Exit.inBlock i QQ (.exit j) a w
  cases hj:Nat.beq j i with
  | true=>
   rw[hj]at hk
   have hj:j=i:=by simpa using hj
   simp only[Exit.inBlock,hj,if_true]
   exact h .normal fr hh fa hk hfa ρ w a d hs hf hN hd
  | false=>
   rw[hj]at hk
   have hj:¬ j=i:=by intro e;subst e;simp at hj
   simp only[Exit.inBlock,hj,if_false]
   exact h (.exit j) fr hh fa hk hfa ρ w a d hs hf hN hd
theorem zcr {Y:Ty} (hY:TyOk P Y) (hm:P.follows .mixedOrders=true) {dr:Nat->Option Dr} {g:Ctx} (hcall:zi E P g.call) {w0:World} {lo:Ev.P}:∀ (z:ZC) (ko:K2) (QQ:Exit->Act->World->Prop),z.drB dr=true->zdN E P N w0 lo ko QQ->zdN E P N w0 lo (zjb (zGo Y N dr z) g ko) (zge P z QQ)
 | .hole,ko,QQ,hB,h=>h
 | .seqL z b,ko,QQ,hB,h=>by
  simp only[ZC.drB,Bool.and_eq_true]at hB
  exact zcr hY hm hcall z _ _ hB.1 (zmz hY hm hcall hB.2 h)
 | .seqR a z,ko,QQ,hB,h=>by
  simp only[ZC.drB,Bool.and_eq_true]at hB
  exact zcr hY hm hcall z ko QQ hB.2 h
 | .block i z,ko,QQ,hB,h=>zcr hY hm hcall z _ _ hB (zus h)
theorem zeE {Y:Ty} (hY:TyOk P Y) (hm:P.follows .mixedOrders=true) {dr:Nat->Option Dr} {g:Ctx} (hcall:zi E P g.call) {w0:World} {lo:Ev.P} {x:Code} {k:K1}:∀ (z:ZC) (fr:Fr) (h:H) (fa:Fa) (ko:K2) (QQ:Exit->Act->World->Prop),z.drB dr=true->zIn (zGo Y N dr z) g fr h fa k ko=0->FaOk E fa->zdN E P N w0 lo ko QQ ->
  (∀ fr' h' fa',k fr' h' fa'=0->FaOk E fa'->∀ ρ' w' (a':Act),Wd w0 lo ρ' h' w'->Sat E ρ' h' w'->zw E ρ' h'.n.toNat fr' a'.tmps->N<=a'.tmps.size->a'.defers=[]->x.wp P (zge P z QQ) a' w') ->
  ∀ ρ w (a:Act),Wd w0 lo ρ h w->Sat E ρ h w->zw E ρ h.n.toNat fr a.tmps->N<=a.tmps.size->a.defers=[]->(z.plug x).wp P QQ a w
 | .hole,fr,h,fa,ko,QQ,hB,hk,hfa,hko,hx,ρ,w,a,d,hs,hf,hN,hd=>hx fr h fa hk hfa ρ w a d hs hf hN hd
 | .seqL z b,fr,h,fa,ko,QQ,hB,hk,hfa,hko,hx,ρ,w,a,d,hs,hf,hN,hd=>by
  simp only[ZC.drB,Bool.and_eq_true]at hB
  exact wp_seq (zeE hY hm hcall z fr h fa _ _ hB.1 hk hfa (zmz hY hm hcall hB.2 hko) hx ρ w a d hs hf hN hd)
 | .seqR b z,fr,h,fa,ko,QQ,hB,hk,hfa,hko,hx,ρ,w,a,d,hs,hf,hN,hd=>by
  simp only[ZC.drB,Bool.and_eq_true]at hB
  obtain⟨ae,fr1,h1,fa1,hk1,hfa1,r1⟩:=yF hY hm hcall b fr h fa _ hB.1 hfa hk
  refine wp_seq (r1 ρ w a _ hs hf hN hd ?_)
  rintro a' w' ⟨ρ',f1,n1,d1,s1,x1⟩
  cases ae with
  | normal=>exact zeE hY hm hcall z fr1 h1 fa1 ko QQ hB.2 hk1 hfa1 hko hx ρ' w' a' (d.step x1) s1 f1 n1 d1
  | ret=>exact hko .ret fr1 h1 fa1 hk1 hfa1 ρ' w' a' (d.step x1) s1 f1 n1 d1
  | exit i=>exact hko (.exit i) fr1 h1 fa1 hk1 hfa1 ρ' w' a' (d.step x1) s1 f1 n1 d1
 | .block i z,fr,h,fa,ko,QQ,hB,hk,hfa,hko,hx,ρ,w,a,d,hs,hf,hN,hd=>
  wp_block (zeE hY hm hcall z fr h fa _ _ hB hk hfa (zus hko) hx ρ w a d hs hf hN hd)
theorem zep {x:Code} {QQ:Exit->Act->World->Prop}:∀ {n m:Nat} (a:Act) (w:World),n<=m->Code.rounds P x QQ n a w->Code.rounds P x QQ m a w
 | 0,m,a,w,h,hr=>hr.elim
 | n+1,0,a,w,h,hr=>by omega
 | n+1,m+1,a,w,h,hr=>by
  rw[rounds_succ]at hr ⊢
  refine Go.wp_mono hr fun e a' w' hq=>?_
  cases e with
  | normal=>exact zep a' w' (by omega) hq
  | _=>exact hq
theorem ztJ {st:Nat->GS} {nx:List (Nat × Sg)} {fr:Fr} {h:H} (hk:zfw st nx fr h=0):nx≠[]/\∀ p∈nx,zfy (st p.1) p.2 fr h=true:=by
 cases nx with
 | nil=>exact absurd (show (1:Nat)=0 from hk) (by simp)
 | cons p r=>
  obtain⟨h1,_⟩:=zn (show bc (yP (fun p:Nat × Sg=>zfy (st p.1) p.2 fr h) (p::r)) 0 1=0 from hk) (by simp)
  exact⟨by simp,jA h1⟩
def zf2 (st:Nat->GS) (Inv:Nat->Nat->Env->Prop) (E:Env) (nx:List (Nat × Sg)) (m:Nat):Prop:=
 nx≠[]->∃ j' σ m' E',(j',σ)∈nx/\m'<m/\Inv m' j' E'/\TrE σ E E'/\∀ p o,(st j').h.t.get p=some o->zw2 E' o
def koB (rs:List IR):K2:=fun e fr h fa=>je e (za0 rs fr h (fun v=>bc (V.beq v (.b true)) 0 1) 1) (za0 rs fr h (fun v=>bc (V.beq v (.b true)) 0 1) 1) (fun _=>1)
theorem zAt {Y:Ty} (hY:TyOk P Y) {f:Func} {rs:List IR} (hrs:zbd Y f.results.toList=some rs) (w0:World) (lo:Ev.P) (E:Env) :
  zdN E P N w0 lo (koB rs) (bodyPost P f (fun e w'=>e=.returned (.bool true)/\Below w0.heap.size w0 w')):=by
 intro ae fr h fa hk hfa ρ w a d hs hf hN hd
 have fin:za0 rs fr h (fun v=>bc (V.beq v (.b true)) 0 1) 1=0->bodyPost P f (fun e w'=>e=.returned (.bool true)/\Below w0.heap.size w0 w') .ret a w:=by
  intro hr
  obtain⟨vs,hvs,hr⟩:=zA (show oc (zbv fr h rs) _ _=0 from hr) (by simp)
  obtain⟨e1,b1⟩:=js hY hrs hs hf hvs
  have hv:vs=[.b true]:=by
   match vs,hr with
   | [],hr=>
    obtain⟨h1,_⟩:=zn (show bc (V.beq (.tup []) (.b true)) 0 1=0 from hr) (by simp)
    cases V.beq_ok h1
   | [v],hr=>
    obtain⟨h1,_⟩:=zn (show bc (V.beq v (.b true)) 0 1=0 from hr) (by simp)
    rw[V.beq_ok h1]
   | x::y::r,hr=>
    obtain⟨h1,_⟩:=zn (show bc (V.beq (.tup (x::y::r)) (.b true)) 0 1=0 from hr) (by simp)
    cases V.beq_ok h1
  subst hv
  refine⟨hd,.bool true,?_,rfl,d.os,d.tape,d.output,d.size,d.keep⟩
  simpa [γL,V.γ] using e1
 cases ae with
 | normal=>exact fin hk
 | ret=>exact fin hk
 | exit i=>exact absurd (show (1:Nat)=0 from hk) (by simp)
end Go.Ev
end
set_option linter.unusedSimpArgs false
set_option linter.unusedVariables false
noncomputable section
namespace Go.Ev
open Go Go.RowKit
variable {E:Env} {P:Program}
def zb2:Code->Option (ZC × Code)
 | .seq a b=>match zb2 a with
  | some (z,x)=>some (.seqL z b,x)
  | none=>match zb2 b with
   | some (z,x)=>some (.seqR a z,x)
   | none=>none
 | .block i a=>match zb2 a with
  | some (z,x)=>some (.block i z,x)
  | none=>none
 | .loop x=>some (.hole,x)
 | _=>none
theorem zeD:∀ {c:Code} {z:ZC} {x:Code},zb2 c=some (z,x)->c=z.plug (.loop x)
 | .seq a b,z,x,h=>by
  simp only[zb2]at h
  split at h
  ·rename_i z' x' h1
   simp at h
   obtain⟨rfl,rfl⟩:=h
   rw[zeD h1];rfl
  ·split at h
   ·rename_i z' x' h1
    simp at h
    obtain⟨rfl,rfl⟩:=h
    rw[zeD h1];rfl
   ·simp at h
 | .block i a,z,x,h=>by
  simp only[zb2]at h
  split at h
  ·rename_i z' x' h1
   simp at h
   obtain⟨rfl,rfl⟩:=h
   rw[zeD h1];rfl
  ·simp at h
 | .loop a,z,x,h=>by
  simp[zb2]at h
  obtain⟨rfl,rfl⟩:=h
  rfl
 | .skip,_,_,h=>by simp[zb2]at h
 | .region ..,_,_,h=>by simp[zb2]at h
 | .cond ..,_,_,h=>by simp[zb2]at h
 | .rangeFunc ..,_,_,h=>by simp[zb2]at h
 | .exit ..,_,_,h=>by simp[zb2]at h
 | .scope ..,_,_,h=>by simp[zb2]at h
 | .label ..,_,_,h=>by simp[zb2]at h
 | .goto ..,_,_,h=>by simp[zb2]at h
 | .ret,_,_,h=>by simp[zb2]at h
 | .refuse ..,_,_,h=>by simp[zb2]at h
theorem zdt {dr:Nat->Option Dr} {x:Code}:∀ {z:ZC},zH dr (z.plug (.loop x))=true->z.drB dr=true/\zH dr x=true
 | .hole,h=>⟨rfl,h⟩
 | .seqL z b,h=>by
  simp only[ZC.plug,zH,Bool.and_eq_true]at h
  obtain⟨h1,h2⟩:=zdt h.1
  exact⟨by simp only[ZC.drB,Bool.and_eq_true];exact⟨h1,h.2⟩,h2⟩
 | .seqR a z,h=>by
  simp only[ZC.plug,zH,Bool.and_eq_true]at h
  obtain⟨h1,h2⟩:=zdt h.2
  exact⟨by simp only[ZC.drB,Bool.and_eq_true];exact⟨h.1,h1⟩,h2⟩
 | .block i z,h=>zdt (z:=z) h
structure CutX where
 z:ZI
 x:IC
 rs:List IR
def cutX (Y:Ty) (dr:Nat->Option Dr) (f:Func):Option CutX:=match f.body,zbd Y f.results.toList with
 | some c,some rs=>match zb2 c with
  | some (z,x)=>some ⟨zGo Y f.ntmps dr z,yo Y f.ntmps dr x,rs⟩
  | none=>none
 | _,_=>none
def anewS (σ:Sg) (E:Env) (q:Nat):Row:=if q<50 then E.s q else match σ (100000+q) with
 | some (.lit (.ofNat q'))=>E.s q'
 | _=>E.s q
def anew (σ:Sg) (E:Env):Env:=⟨fun i=>match σ i with
 | some s=>s.den E
 | none=>0,E.b,anewS σ E⟩
end Go.Ev
end
set_option linter.unusedSimpArgs false
set_option linter.unusedVariables false
noncomputable section
namespace Go.Ev
open Go Go.RowKit
variable {E:Env} {P:Program}
theorem satNil {E:Env} (ρ:Rho) (w:World):Sat E ρ ⟨.h,.h,.e⟩ w:=
 ⟨fun p o hp=>absurd (show (none:Option O)=some o from (PT.get_e p).symm.trans hp) (by simp),fun p q o o' hp=>absurd (show (none:Option O)=some o from (PT.get_e p).symm.trans hp) (by simp),
  fun p o hp=>absurd (show (none:Option O)=some o from (PT.get_e p).symm.trans hp) (by simp)⟩
theorem zAZ {ρ ρ':Rho} {h':H} {w w':World} (x:Ext ρ ⟨.h,.h,.e⟩ w ρ' h' w'):Below w.heap.size w w':=
 ⟨x.os,x.tape,x.output,x.size,fun b hb=>x.keep b hb fun p o hp=>absurd (show (none:Option O)=some o from (PT.get_e p).symm.trans hp) (by simp)⟩
def zmc (v:V):K:=fun u _ _=>bc (V.beq u v) 0 1
theorem ze4 {Y:Ty} {C:Cx} (hx:CxOk E P Y C) {F:Nat} {l:List V} {fa:Fa} {inner:zy} (hi:zi E P inner) (hfa:FaOk E fa) {v:V} (hr:zbb C 0 inner F l ⟨.h,.h,.e⟩ fa (zmc v)=0) (hl:bdL 1 l) (ρ:Rho) (W:World) :
  Calls P F (γL E ρ l).toArray W fun e w'=>(∃ ρ',e=.returned (v.γ E ρ'))/\Below W.heap.size W w':=by
 obtain⟨_,u,h',fa',hk,_,hc⟩:=zbz hx 0 hi _ _ _ _ _ hr hfa
 obtain⟨hv,_⟩:=zn (show bc (V.beq u v) 0 1=0 from hk) (by simp)
 have hv:=V.beq_ok hv
 subst hv
 refine(hc ρ W hl (satNil _ W)).mono ?_
 rintro e w' ⟨ρ',rfl,_,x,_⟩
 exact⟨⟨ρ',rfl⟩,zAZ x⟩
end Go.Ev
end
set_option linter.unusedSimpArgs false
set_option linter.unusedVariables false
noncomputable section
namespace Go.Ev
open Go
end Go.Ev
end
set_option linter.unusedSimpArgs false
set_option linter.unusedVariables false
noncomputable section
namespace Go.Ev
open Go
variable {E:Env} {P:Program}
end Go.Ev
end
