import Derived.Test.YtcinokgfjdifbaaGreatE3
import Derived.RangeFuncRecord
import Derived.RangeFuncLeaves
import Derived.RangeFuncSeq
import Derived.LoopNIn
import Derived.TacticsIn
import Derived.Scope
import Derived.Test.YtcinokgfjdifbaaGreatE2
import Derived.Below
set_option linter.unusedSimpArgs false
set_option linter.unusedVariables false
noncomputable section
namespace Go.Ev
open Go
variable {E:Env} {P:Program}
inductive OS where
 | o (x:O) | a (t n d:Nat) (z:V) (l:List (Nat × V)) | va (t n d:Nat) (z:V) (l:List (Nat × V)) | u (l:List (Nat × V))
def trGo (d:Nat) (l:List (Nat × V)) (t:Tr V):Tr V:=List.foldl (fun t p=>t.set d p.1 p.2) t l
def trK (d:Nat) (l:List (Nat × V)):Tr V->(Tr V->Nat)->Nat:=jE (fun t k=>k t) (fun p _ ih t k=>pc p (fun a v=>zbP t d a v (fun t=>ih t k))) l
def updO (l:List (Nat × V)) (o:O):O:=match o with
 | .arr t n d z tr=>.arr t n d z (trGo d l tr)
 | .varr t n d z tr=>.varr t n d z (trGo d l tr)
 | o=>o
def updK (l:List (Nat × V)) (o:O) (k:O->Nat):Nat:=match o with
 | .arr t n d z tr=>trK d l tr (fun tr=>k (.arr t n d z tr))
 | .varr t n d z tr=>trK d l tr (fun tr=>k (.varr t n d z tr))
 | o=>k o
def OS.mk (x:OS) (old:Option O):O:=match x with
 | .o x=>x
 | .a t n d z l=>.arr t n d z (trGo d l .nil)
 | .va t n d z l=>.varr t n d z (trGo d l .nil)
 | .u l=>oc old (updO l) .dead
def OS.mkK (x:OS) (old:Option O) (k:O->Nat):Nat:=match x with
 | .o x=>k x
 | .a t n d z l=>trK d l .nil (fun tr=>k (.arr t n d z tr))
 | .va t n d z l=>trK d l .nil (fun tr=>k (.varr t n d z tr))
 | .u l=>oc old (fun o=>updK l o k) (k .dead)
def ptGo (l:List (Ev.P × OS)) (t:PT O):PT O:=List.foldl (fun t p=>t.set p.1 (p.2.mk (t.get p.1))) t l
def ptK (l:List (Ev.P × OS)):PT O->(PT O->Nat)->Nat:=jE (fun t k=>k t) (fun p _ ih t k=>pc p (fun a x=>x.mkK (t.get a) (fun o=>zbg a t o (fun t=>ih t k)))) l
structure HS where
 n:Ev.P
 lo:Ev.P
 l:List (Ev.P × OS)
def HS.mk' (s:HS):H:=⟨s.n,s.lo,ptGo s.l .e⟩
def HS.mkK (s:HS) (k:H->Nat):Nat:=HS.rec (motive:=fun _=>Nat) (fun n lo l=>ptK l .e (fun t=>k ⟨n,lo,t⟩)) s
theorem zgV (d:Nat):∀ (l:List (Nat × V)) (t:Tr V) (k:Tr V->Nat),trK d l t k=k (trGo d l t)
 | [],t,k=>rfl
 | (a,v)::r,t,k=>by
  have e:trK d ((a,v)::r) t k=zbP t d a v (fun t=>trK d r t k):=rfl
  rw[e,za8,zgV d r];rfl
theorem updK_eq (l:List (Nat × V)) (o:O) (k:O->Nat):updK l o k=k (updO l o):=by
 cases o <;> try rfl
 ·show trK _ l _ _=_;rw[zgV];rfl
 ·show trK _ l _ _=_;rw[zgV];rfl
theorem OS.mkK_eq (x:OS) (old:Option O) (k:O->Nat):x.mkK old k=k (x.mk old):=by
 cases x with
 | o x=>rfl
 | a t n d z l=>show trK d l .nil _=_;rw[zgV];rfl
 | va t n d z l=>show trK d l .nil _=_;rw[zgV];rfl
 | u l=>
  cases old with
  | none=>rfl
  | some o=>show updK l o k=_;rw[updK_eq];rfl
theorem ptK_eq:∀ (l:List (Ev.P × OS)) (t:PT O) (k:PT O->Nat),ptK l t k=k (ptGo l t)
 | [],t,k=>rfl
 | (a,x)::r,t,k=>by
  have e:ptK ((a,x)::r) t k=x.mkK (t.get a) (fun o=>zbg a t o (fun t=>ptK r t k)):=rfl
  rw[e,OS.mkK_eq,zaP,ptK_eq r];rfl
theorem HS.mkK_eq (s:HS) (k:H->Nat):s.mkK k=k s.mk':=by
 cases s with
 | mk n lo l=>show ptK l .e _=_;rw[ptK_eq];rfl
structure MS where
 F:Nat
 l:List V
 h:HS
 v:V
 h':HS
def MS.m (s:MS):Memo:=⟨s.F,s.l,s.h.mk',s.v,s.h'.mk'⟩
def MS.run (s:MS) (call:z3) (fa:Fa):Nat:=s.h.mkK (fun h=>s.h'.mkK (fun h'=>call s.F s.l h fa (chk s.v h')))
theorem zjw {m:Memo} {fa0:Fa} {inner inner0:z3} (h1:zk E P inner) (h0:zk E P inner0) (hfa0:FaOk E fa0) (hold:∀ p:Ev.P,p.toNat<m.h.lo.toNat->m.h'.t.get p=m.h.t.get p) (hm:inner0 m.F m.l m.h fa0 (chk m.v m.h')=0):zk E P (memo m inner):=by
 intro F l h fa k hk hfa
 unfold memo at hk
 cases e1:Nat.beq F m.F with
 | false=>rw[e1]at hk;exact h1 F l h fa k hk hfa
 | true=>
  rw[e1]at hk
  have hk:bc (jG l m.l) (bc (H.beq h m.h) (k m.v m.h' fa) (inner F l h fa k)) (inner F l h fa k)=0:=hk
  cases e2:jG l m.l with
  | false=>rw[e2]at hk;exact h1 F l h fa k hk hfa
  | true=>
   rw[e2]at hk
   have hk:bc (H.beq h m.h) (k m.v m.h' fa) (inner F l h fa k)=0:=hk
   cases e3:H.beq h m.h with
   | false=>rw[e3]at hk;exact h1 F l h fa k hk hfa
   | true=>
    rw[e3]at hk
    have hk:k m.v m.h' fa=0:=hk
    have e1:F=m.F:=by simpa using e1
    have e2:=jX e2
    have e3:=H.beq_ok e3
    subst e1;subst e2;subst e3
    obtain⟨hca,v,h2,fa2,hc,_,zr⟩:=h0 _ _ _ _ _ hm hfa0
    obtain⟨rfl,en,el,hs⟩:=chk_ok hc
    refine⟨hca,m.v,m.h',fa,hk,hfa,fun ρ w hb hsat=>(zr ρ w hb hsat).mono ?_⟩
    rintro e w' ⟨ρ',rfl,s,x,hv⟩
    refine⟨ρ',rfl,⟨fun p o hp=>s.obj p o (hs p o hp),fun p q o o' hp hq=>s.inj p q o o' (hs p o hp) (hs q o' hq),fun p o hp=>by rw[en];exact s.bd p o (hs p o hp)⟩,?_,by rw[en];exact hv⟩
    refine⟨by rw[en];exact x.len,el.trans x.lo,x.agree,fun p o hp hg hl=>x.new p o hp (hs p o hg) hl,x.os,x.tape,x.output,x.size,x.keep,fun p hp _=>?_,fun p o' hp hg hl=>x.liv p o' hp (hs p o' hg) hl⟩
    exact hold p hp
theorem zqZ {m:Memo} {fa0:Fa} {inner inner0:z3} (h1:zk E P inner) (h0:zk E P inner0) (hfa0:FaOk E fa0) (hlo:m.h.lo=.h) (hm:inner0 m.F m.l m.h fa0 (chk m.v m.h')=0):zk E P (memo m inner):=
 zjw h1 h0 hfa0 (fun p hp=>by
  rw[hlo]at hp
  have h3:=Ev.P.toNat_pos p
  have h4:(Ev.P.h).toNat=1:=rfl
  omega) hm
theorem ms_ok {s:MS} {fa0:Fa} {inner inner0:z3} (hlo:s.h.lo=.h) (hm:s.run inner0 fa0=0) (hfa0:FaOk E fa0) (h0:zk E P inner0) (h1:zk E P inner):zk E P (memo s.m inner):=by
 unfold MS.run at hm
 rw[HS.mkK_eq,HS.mkK_eq]at hm
 exact zqZ h1 h0 hfa0 hlo hm
def zhy (s:MS) (inner:z3):z3:=fun F l h fa k=>bc (Nat.beq F s.F) (bc (jG l s.l) (s.h.mkK (fun h0=>bc (H.beq h h0) (s.h'.mkK (fun h'=>k s.v h' fa)) (inner F l h fa k))) (inner F l h fa k)) (inner F l h fa k)
theorem zmn (s:MS) (inner:z3):zhy s inner=memo s.m inner:=by
 funext F l h fa k
 unfold zhy memo
 rw[HS.mkK_eq,HS.mkK_eq]
 rfl
theorem msS_ok {s:MS} {fa0:Fa} {inner inner0:z3} (hlo:s.h.lo=.h) (hm:s.run inner0 fa0=0) (hfa0:FaOk E fa0) (h0:zk E P inner0) (h1:zk E P inner):zk E P (zhy s inner):=by
 rw[zmn]
 exact ms_ok hlo hm hfa0 h0 h1
theorem msR_ok {s:MS} {fa0:Fa} {inner inner0:z3} (hlo:s.h.lo=.o .h) (hold:zcj (s.h'.mk'.t.get .h) (s.h.mk'.t.get .h)=true) (hm:s.run inner0 fa0=0) (hfa0:FaOk E fa0) (h0:zk E P inner0) (h1:zk E P inner):zk E P (zhy s inner):=by
 rw[zmn]
 unfold MS.run at hm
 rw[HS.mkK_eq,HS.mkK_eq]at hm
 refine zjw h1 h0 hfa0 (fun p hp=>?_) hm
 have hp:p.toNat<s.h.lo.toNat:=hp
 rw[hlo]at hp
 have h3:=Ev.P.toNat_pos p
 have h4:(Ev.P.o .h).toNat=2:=rfl
 have h5:(Ev.P.h).toNat=1:=rfl
 have:p=.h:=Ev.P.toNat_inj (by omega)
 subst this
 exact zby hold
theorem lone_ok {F:Nat} {v:V} {inner:z3} {fa0:Fa} (hi:zk E P inner) (hfa0:FaOk E fa0) (hv:v.bd 0) (hr:inner F [] ⟨.h,.h,.e⟩ fa0 (fun u _ _=>bc (V.beq u v) 0 1)=0) :
  zk E P (fun G l h fa k=>bc (Nat.beq G F) (zaD (k v h fa) (fun _ _=>1) l) 1):=by
 intro G l h fa k hk hfa
 obtain⟨hG,hk2⟩:=zK (show bc (Nat.beq G F) (zaD (k v h fa) (fun _ _=>1) l) 1=0 from hk) (by simp)
 clear hk
 have hG:G=F:=by simpa using hG
 subst hG
 cases l with
 | cons a r=>exact absurd (show (1:Nat)=0 from hk2) (by simp)
 | nil=>
 have hk:k v h fa=0:=hk2
 obtain⟨hca,u,h2,fa2,hc,_,zr⟩:=hi _ _ _ _ _ hr hfa0
 obtain⟨hu,_⟩:=zK (show bc (V.beq u v) 0 1=0 from hc) (by simp)
 have hu:=V.beq_ok hu
 subst hu
 refine⟨hca,u,h,fa,hk,hfa,fun ρ w hb hs=>(zr ρ w trivial ⟨fun p o hp=>?_,fun p q o o' hp=>?_,fun p o hp=>?_⟩).mono ?_⟩
 ·exact absurd (show (none:Option O)=some o from (PT.get_e p).symm.trans hp) (by simp)
 ·exact absurd (show (none:Option O)=some o from (PT.get_e p).symm.trans hp) (by simp)
 ·exact absurd (show (none:Option O)=some o from (PT.get_e p).symm.trans hp) (by simp)
 rintro e w' ⟨ρ',rfl,s,x,hv2⟩
 have hkeep:∀ b,b<w.heap.size->w'.heap[b]? = w.heap[b]?:=fun b hb=>x.keep b hb fun p o hp=>absurd (show (none:Option O)=some o from (PT.get_e p).symm.trans hp) (by simp)
 refine⟨ρ,?_,⟨fun p o hp=>O.Is_heap E (fun hl=>hkeep _ (O.Is_lt E (hs.obj p o hp) hl)) (hs.obj p o hp),hs.inj,hs.bd⟩,?_,bd_mono (Nat.zero_le _) u hv⟩
 ·rw[γ_agree E (n:=0) (fun i hi=>by omega) u hv]
 ·exact⟨Nat.le_refl _,rfl,fun _ _=>rfl,fun p o h1 h2=>by have:=(hs.bd p o h2).1;omega,x.os,x.tape,x.output,x.size,fun b hb _=>hkeep b hb,fun _ _ _=>rfl,fun p o _ h1 _=>⟨o,h1,by assumption⟩⟩
def endB:K:=fun v _ _=>bc (V.beq v (.b true)) 0 1
def zlf (Q:Nat->IFn->Prop):Nat->Nat->Nat->Tr IFn->Prop
 | 0,_,b,.leaf a=>Q b a
 | d+1,s,b,.node l r=>zlf Q d (2*s) b l/\zlf Q d (2*s) (b+s) r
 | _,_,_,_=>True
theorem zt0 (k:Nat):zd3 k=decide (k % 2=0):=by
 unfold zd3
 rw[Bool.eq_iff_iff,decide_eq_true_iff,Nat.beq_eq]
 exact Iff.rfl
theorem zef {Q:Nat->IFn->Prop}:∀ (d s b k:Nat) (t:Tr IFn) (a:IFn),zlf Q d s b t->k<2 ^ d->t.get d k=some a->Q (b+s*k) a
 | 0,s,b,k,t,a,hg,hk,h=>by
  have:k=0:=by simpa using hk
  subst this
  cases t with
  | leaf x=>have h:some x=some a:=h;cases h;exact hg
  | nil=>cases h
  | node l r=>cases h
 | d+1,s,b,k,t,a,hg,hk,h=>by
  cases t with
  | leaf x=>cases h
  | nil=>cases h
  | node l r=>
   have h:Bool.rec (motive:=fun _=>Option IFn) (r.get d (Nat.div k 2)) (l.get d (Nat.div k 2)) (zd3 k)=some a:=h
   rw[zt0]at h
   have hd:Nat.div k 2=k / 2:=rfl
   rw[hd]at h
   have hk2:k / 2<2 ^ d:=by rw[Nat.pow_succ]at hk;omega
   by_cases e:k % 2=0
   ·rw[decide_eq_true e]at h
    have:=zef d (2*s) b (k / 2) l a hg.1 hk2 h
    rw[show b+2*s*(k / 2)=b+s*k by
     have:k=2*(k / 2):=by omega
     conv=>rhs;rw[this]
     rw[Nat.mul_comm 2 s,Nat.mul_assoc]]at this
    exact this
   ·rw[decide_eq_false e]at h
    have:=zef d (2*s) (b+s) (k / 2) r a hg.2 hk2 h
    rw[show b+s+2*s*(k / 2)=b+s*k by
     have:k=2*(k / 2)+1:=by omega
     conv=>rhs;rw[this]
     rw[Nat.mul_comm 2 s,Nat.mul_assoc,Nat.mul_add,Nat.mul_one];omega]at this
    exact this
def zv (P:Program) (F:Nat) (i:IFn):Prop:=∃ (f:Func) (dr:Nat->Option Dr),P.funcs[F]? = some f/\j6 P F/\cFn (zX P) dr f=some i/\(∀ c,f.body=some c->zam dr c=true)
def zf8 (dr:Nat->Option Dr) (f:Func):Bool:=match f.body with
 | some c=>zam dr c
 | none=>true
theorem zf {F:Nat} {i:IFn} {f:Func} {dr:Nat->Option Dr} (h1:P.funcs[F]? = some f) (h2:j6 P F) (h3:cFn (zX P) dr f=some i) (h4:zf8 dr f=true):zv P F i:=
 ⟨f,dr,h1,h2,h3,fun c hc=>by unfold zf8 at h4;rw[hc]at h4;exact h4⟩
end Go.Ev
end
set_option linter.unusedSimpArgs false
set_option linter.unusedVariables false
noncomputable section
namespace Go.Ev
open Go
def N16.no (a:N16):Nat:=N16.rec (motive:=fun _=>Nat) 0 1 2 3 4 5 6 7 8 9 10 11 12 13 14 15 a
def kyEq (a b:Ky):Bool:=match a,b with
 | .k1 a,.k1 b=>Nat.beq a.no b.no
 | .k2 a b,.k2 c d=>bc (Nat.beq a.no c.no) (Nat.beq b.no d.no) false
 | .k3 a b c,.k3 d e f=>bc (Nat.beq a.no d.no) (bc (Nat.beq b.no e.no) (Nat.beq c.no f.no) false) false
 | .kn a,.kn b=>Nat.beq a b
 | _,_=>false
def zcS:List Ky->Ky->Bool
 | [],_=>false
 | a::r,t=>bc (kyEq a t) true (zcS r t)
inductive YO where
 | mv (d t:Ky) (x:OI) | cl (d t:Ky) (l:List Od) (x:OI) | o (x:OI)
inductive YC where
 | skip | ret | exit (i:Nat) | seq (a b:YC) | cond (t:Ky) (a b:YC) | block (i:Nat) (a:YC) | loop (a:YC) | ops (l:List YO) | rng (g:Od) (ps:List Ky) (a b:YC) | bad
abbrev Pd:=Option AE
abbrev KY:=AE->Fr->H->Fa->List Ky->Pd->Nat
abbrev KY1:=Fr->H->Fa->List Ky->Pd->Nat
abbrev Hand:=List V->H->Fa->(Bool->H->Fa->Pd->Nat)->Nat
abbrev zlg:=Hand->List V->H->Fa->(H->Fa->Pd->Nat)->Nat
structure YX where
 call:z3
 F:Nat
 fuel:Nat
 hand:Hand
 itr:Nat->Option zlg
abbrev SY:=YX->Fr->H->Fa->List Ky->Pd->KY->Nat
def YX.x (c:YX):Ctx:=⟨c.call,c.F,c.fuel⟩
def zel:Hand:=fun _ _ _ _=>1
def zhw:Nat->Option zlg:=fun _=>none
def dstOk (ys:List Ky) (x:OI):Bool:=OI.go (fun d _ _=>oc d (fun d=>bc (zcS ys d) false true) true) (fun d _ _ _=>oc d (fun d=>bc (zcS ys d) false true) true) x
def zg2 (x:OI) (c:YX) (fr:Fr) (h:H) (fa:Fa) (ys:List Ky) (pd:Pd) (k:KY1):Nat:=
 bc (dstOk ys x) (OI.go zg3 zdk x c.x fr h fa (fun fr h fa=>k fr h fa ys pd)) 1
def zfF {α:Type} (x:Option α):Bool:=oc x (fun _=>true) false
def zoL (x:YO) (c:YX) (fr:Fr) (h:H) (fa:Fa) (ys:List Ky) (pd:Pd) (k:KY1):Nat:=match x with
 | .mv d t x=>bc (zcS ys t) (bc (zfF (fr.get d)) 1 (k fr h fa (d::ys) pd)) (zg2 x c fr h fa ys pd k)
 | .cl d t l x=>bc (zcS ys t) (bc (zcS ys d) 1 (bc (zfF pd) 1 (oc (ods l fr) (fun l=>c.hand l h fa (fun b h fa pd=>zeM d fr (.b b) (fun fr=>k fr h fa ys pd))) 1))) (zg2 x c fr h fa ys pd k)
 | .o x=>zg2 x c fr h fa ys pd k
def opsY:List YO->YX->Fr->H->Fa->List Ky->Pd->KY1->Nat
 | [],_,fr,h,fa,ys,pd,k=>k fr h fa ys pd
 | x::r,c,fr,h,fa,ys,pd,k=>zoL x c fr h fa ys pd (fun fr h fa ys pd=>opsY r c fr h fa ys pd k)
def zh2:List Ky->List V->Fr->(Fr->Nat)->Nat
 | [],[],fr,k=>k fr
 | p::ps,v::vs,fr,k=>zeM p fr v (fun fr=>zh2 ps vs fr k)
 | _,_,_,_=>1
def endR (e:AE) (h:H) (fa:Fa) (k:Bool->H->Fa->Pd->Nat):Nat:=zbU e (k true h fa none) (k false h fa (some .ret)) (fun i=>k false h fa (some (.exit i)))
def roundT (c:YX) (fr:Fr) (ps:List Ky) (ra rb:SY):Hand:=fun l h fa k=>
 zh2 ps l fr (fun fr=>ra ⟨c.call,c.F,c.fuel,zel,zhw⟩ fr h fa [] none (fun e fr h fa _ pd=>bc (zfF pd) 1 (zbU e
  (rb ⟨c.call,c.F,c.fuel,zel,zhw⟩ fr h fa [] none (fun e fr h fa _ pd=>bc (zfF pd) 1 (endR e h fa k))) 1 (fun _=>1))))
def behindT (pd:Pd) (k:AE->Pd->Nat):Nat:=match pd with
 | none=>k .normal (some .normal)
 | some e=>k e (some .normal)
def nilL {α:Type} (l:List α):Bool:=zaD true (fun _ _=>false) l
def zab:YC->SY
 | .skip=>fun _ fr h fa ys pd k=>k .normal fr h fa ys pd
 | .ret=>fun _ fr h fa ys pd k=>k .ret fr h fa ys pd
 | .exit i=>fun _ fr h fa ys pd k=>k (.exit i) fr h fa ys pd
 | .seq a b=>fun c fr h fa ys pd k=>zab a c fr h fa ys pd (fun e fr h fa ys pd=>zbU e (zab b c fr h fa ys pd k) (k .ret fr h fa ys pd) (fun i=>k (.exit i) fr h fa ys pd))
 | .cond t a b=>fun c fr h fa ys pd k=>way fa (fr.get t) (fun x fa=>bc x (zab a c fr h fa ys pd k) (zab b c fr h fa ys pd k)) 1
 | .block i a=>fun c fr h fa ys pd k=>zab a c fr h fa ys pd (fun e fr h fa ys pd=>zbU e (k .normal fr h fa ys pd) (k .ret fr h fa ys pd) (fun j=>bc (Nat.beq j i) (k .normal fr h fa ys pd) (k (.exit j) fr h fa ys pd)))
 | .loop a=>fun c=>Nat.rec (motive:=fun _=>Fr->H->Fa->List Ky->Pd->KY->Nat) (fun _ _ _ _ _ _=>1)
   (fun _ ih fr h fa ys pd k=>zab a c fr h fa ys pd (fun e fr h fa ys pd=>zbU e (ih fr h fa ys pd k) (k .ret fr h fa ys pd) (fun i=>k (.exit i) fr h fa ys pd))) c.fuel
 | .ops l=>fun c fr h fa ys pd k=>opsY l c fr h fa ys pd (fun fr h fa ys pd=>k .normal fr h fa ys pd)
 | .rng g ps a b=>fun c fr h fa ys pd k=>bc (zfF pd) 1 (vFn (od g fr) (fun G pre caps=>bc (nilL pre) (oc (c.itr G) (fun it=>
   it (roundT c fr ps (zab a) (zab b)) caps h fa (fun h fa pd=>behindT pd (fun e pd=>k e fr h fa ys pd))) 1) 1) 1)
 | .bad=>fun _ _ _ _ _ _ _=>1
def zox (Y:Ty) (N:Nat) (all:List Oper) (o:Oper):Option YO:=match zcg Y N all o with
 | none=>none
 | some x=>match o.guard,o.dst,o.op with
  | none,some d,.move (.tmp t)=>some (.mv (zy d) (zy t) x)
  | none,some d,.assign (.tmp t)=>some (.mv (zy d) (zy t) x)
  | none,some d,.call cl=>match cl.callee,zhZ cl.args.toList with
   | .value (.tmp t),some l=>some (.cl (zy d) (zy t) l x)
   | _,_=>some (.o x)
  | _,_,_=>some (.o x)
def zff (Y:Ty) (N:Nat) (all:List Oper):List Oper->Option (List YO)
 | []=>some []
 | o::r=>match zox Y N all o,zff Y N all r with
  | some a,some b=>some (a::b)
  | _,_=>none
def yT (Y:Ty) (N:Nat):Code->Bool->YC
 | .skip,_=>.skip
 | .ret,_=>.ret
 | .exit i,_=>.exit i
 | .label _,_=>.skip
 | .seq a b,sc=>.seq (yT Y N a sc) (yT Y N b sc)
 | .cond (.tmp t) a b,sc=>.cond (zy t) (yT Y N a sc) (yT Y N b sc)
 | .block i a,sc=>.block i (yT Y N a sc)
 | .loop a,sc=>.loop (yT Y N a sc)
 | .scope a,sc=>bc sc (yT Y N a sc) .bad
 | .region _ ops false,_=>match zff Y N ops.toList ops.toList with
  | some l=>.ops l
  | none=>.bad
 | .rangeFunc g ps a b,_=>match cOd g with
  | some g=>if zW (fun p=>Nat.blt p N) ps.toList then .rng g (ps.toList.map zy) (yT Y N a false) (yT Y N b false) else .bad
  | none=>.bad
 | _,_=>.bad
def itrT (yc:YC) (call:z3) (F fuel:Nat):zlg:=fun hand l h fa k=>jE zpk zpl l 1 .e (fun fr=>zab yc ⟨call,F,fuel,hand,zhw⟩ fr h fa [zy 0] none (fun e fr h fa _ pd=>zbU e (k h fa pd) (k h fa pd) (fun _=>1)))
def rfnT (yc:YC) (rs:List IR) (call:z3) (F fuel:Nat) (itr:Nat->Option zlg):List V->H->Fa->K->Nat:=fun l h fa k=>
 zfI l (fun fr=>zab yc ⟨call,F,fuel,zel,itr⟩ fr h fa [] none (fun e fr h fa _ _=>zbU e (zkm rs fr h (fun v=>k v h fa) 1) (zkm rs fr h (fun v=>k v h fa) 1) (fun _=>1)))
end Go.Ev
end
set_option linter.unusedSimpArgs false
set_option linter.unusedVariables false
noncomputable section
namespace Go.Ev
open Go
variable {E:Env} {P:Program} {N:Nat}
theorem N16.no_inj {a b:N16} (h:a.no=b.no):a=b:=by cases a <;> cases b <;> first | rfl | exact absurd h (by decide)
theorem bc_eqB (x y:Bool):bc x y false=(x && y):=by cases x <;> rfl
theorem zmx (a b:Ky):kyEq a b=true ↔ a=b:=by
 cases a <;> cases b <;> simp only[kyEq,bc_eqB,Nat.beq_eq,Ky.k1.injEq,Ky.k2.injEq,Ky.k3.injEq,Ky.kn.injEq,reduceCtorEq,Bool.and_eq_true,Bool.false_eq_true]
 ·exact⟨N16.no_inj,fun e=>by rw[e]⟩
 ·exact⟨fun ⟨h1,h2⟩=>⟨N16.no_inj h1,N16.no_inj h2⟩,fun ⟨h1,h2⟩=>⟨by rw[h1],by rw[h2]⟩⟩
 ·exact⟨fun ⟨h1,h2,h3⟩=>⟨N16.no_inj h1,N16.no_inj h2,N16.no_inj h3⟩,fun ⟨h1,h2,h3⟩=>⟨by rw[h1],by rw[h2],by rw[h3]⟩⟩
theorem zdr:∀ (ys:List Ky) (t:Ky),zcS ys t=true ↔ t∈ys
 | [],t=>by simp[zcS]
 | a::r,t=>by
  have e:zcS (a::r) t=bc (kyEq a t) true (zcS r t):=rfl
  rw[e]
  cases h:kyEq a t with
  | true=>simp[bc,(zmx a t).1 h]
  | false=>
   have:¬ a=t:=fun e=>by rw[(zmx a t).2 e]at h;cases h
   simp[bc,zdr r t,Ne.symm this]
def Fd (r:Option Nat):Fence:={ Fence.wide with round:=r }
theorem zm5 {r:Option Nat} {n:Nat} {f:FuncId} {args:Array Value} {w:World} {R:Ending->World->Prop} (h:Calls P f args w R):CallsIn (Fd r) n P f args w R:=
 (callsIn_wide (n:=n)).2 h
theorem zst (a:Act) (d:Option Tmp) (v:Value):((⟨a.tmps,[]⟩:Act).put d v).tmps=(a.put d v).tmps:=by cases d <;> rfl
theorem put_defers (a:Act) (d:Option Tmp) (v:Value):(a.put d v).defers=a.defers:=by cases d <;> rfl
theorem op_in {r:Option Nat} {n:Nat} {o:Oper} {a:Act} {w:World} {K:Act->World->Prop} {Q:Exit->Act->World->Prop} (hnd:∀ c,o.op≠.defer c) (hK:∀ a w,K a w->a.defers=[])
  (h:o.wp P ⟨a.tmps,[]⟩ w K (fun _ _ _=>False)):o.wpIn (Fd r) n P a w (fun a' w'=>∃ v,K ((⟨a.tmps,[]⟩:Act).put o.dst v) w'/\a'=a.put o.dst v) Q:=by
 unfold Oper.wpIn
 refine⟨fun _ _=>trivial,?_⟩
 rw[show o.semAt (Fd r).round a.eval=execOp a.eval o from Oper.semAt_eq r a.eval o hnd]
 have he:(⟨a.tmps,[]⟩:Act).eval=a.eval:=by funext x;cases x <;> rfl
 unfold Oper.wp at h
 rw[he]at h
 revert h
 generalize (execOp a.eval o).run P w=res
 intro h
 unfold Oper.upon at h
 split at h
 ·exact⟨_,h,rfl⟩
 ·exact⟨_,h,rfl⟩
 ·have:=hK _ _ h
  rw[put_defers]at this
  cases this
 ·refine⟨fun h=>by simp[Fd,Fence.wide]at h,(zm5 h).mono ?_⟩
  intro e w2 he
  cases e with
  | returned v=>exact⟨_,he,rfl⟩
  | panicked c=>exact he.elim
  | outgrown=>obtain⟨_,_,hf⟩:=he;exact hf.elim
 ·refine⟨fun h=>by simp[Fd,Fence.wide]at h,fun c cs _=>?_⟩
  obtain⟨v,w2,hh,hs⟩:=h c cs
  exact⟨v,w2,⟨_,hh,rfl⟩,stepsIn_wide.2 hs⟩
 ·exact h.elim
 ·exact h.elim
theorem zhY {Y:Ty} {all:List Oper} {o:Oper} {x:OI} (hx:zcg Y N all o=some x):∀ c,o.op≠.defer c:=by
 intro c hc
 obtain⟨d,g,_,_,h⟩:=zao hx
 rcases h with ⟨i,hi,_⟩ | ⟨cl,_,_,_,hop,_⟩
 ·rw[hc]at hi;simp[cOp]at hi
 ·rw[hc]at hop;cases hop
structure Md where
 m:World->World
 J:Pd->List Deferred->Rho->H->World->Prop
structure MdOk (E:Env) (M:Md):Prop where
 step:∀ {pd ds ρ h w ρ' h' w'},Sat E ρ h w->Sat E ρ' h' w'->Ext ρ h w ρ' h' w'->M.J pd ds ρ h w->M.J pd ds ρ' h' w'/\Ext ρ h (M.m w) ρ' h' (M.m w')
def YS (ys:List Ky) (yv:Value) (tmps:Array Value):Prop:=∀ t,zy t∈ys->tmps[t]? = some yv
def AtY (E:Env) (N:Nat) (M:Md) (yv:Value) (ρ:Rho) (h:H) (w:World) (fr':Fr) (h':H) (ys':List Ky) (pd':Pd) (a':Act) (w':World):Prop:=
 ∃ ρ',yr E ρ' h'.n.toNat fr' a'.tmps/\N<=a'.tmps.size/\YS ys' yv a'.tmps/\Sat E ρ' h' w'/\M.J pd' a'.defers ρ' h' w'/\Ext ρ h (M.m w) ρ' h' (M.m w')
theorem AtY.trans {M:Md} {yv:Value} {ρ ρ1:Rho} {h h1:H} {w w1:World} (hx:Ext ρ h (M.m w) ρ1 h1 (M.m w1)) {fr:Fr} {h':H} {ys:List Ky} {pd:Pd} {a:Act} {w':World} (s:AtY E N M yv ρ1 h1 w1 fr h' ys pd a w'):AtY E N M yv ρ h w fr h' ys pd a w':=by
 obtain⟨ρ',a1,a2,a3,a4,a5,a6⟩:=s
 exact⟨ρ',a1,a2,a3,a4,a5,hx.trans a6⟩
def zbv (l:Nat):Value:=.func (.yield l) #[] #[]
def zh8 {ι:Type} (E:Env) (P:Program) (M:ι->Md) (lb:ι->Nat) (hand:Hand):Prop:=∀ l h fa k,hand l h fa k=0->FaOk E fa->∃ b h' fa' pd',k b h' fa' pd'=0/\FaOk E fa' /\
 ∀ i n ρ w ds,bdL h.n.toNat l->Sat E ρ h w->(M i).J none ds ρ h w->YieldAt Fence.wide n P (lb i) (γL E ρ l).toArray w fun e w'=>
  e=.returned (.bool b)/\∃ ρ',Sat E ρ' h' w'/\(M i).J pd' ds ρ' h' w'/\Ext ρ h ((M i).m w) ρ' h' ((M i).m w')
theorem zfA {ι:Type} {M:ι->Md} {lb:ι->Nat}:zh8 E P M lb zel:=fun l h fa k hk=>absurd (show (1:Nat)=0 from hk) (by simp)
def zjG (r:Option Nat) (n:Nat) (P:Program) (ops:Array Oper) (o:Oper) (a:Act) (w:World) (K:Act->World->Prop) (Q:Exit->Act->World->Prop):Prop:=
 if Region.wanted o (yielded ops a.tmps)=true then o.wpIn (Fd r) n P a w K Q else (∀ f,o.about P w a.eval=some f->(Fd r).fn f)/\K (a.put o.dst undef) w
theorem zfY {F:Fence} {n:Nat} {o:Oper} {a:Act} {w:World} {K K':Act->World->Prop} {Q:Exit->Act->World->Prop} (hK:∀ a w,K a w->K' a w) (h:o.wpIn F n P a w K Q):o.wpIn F n P a w K' Q:=by
 unfold Oper.wpIn at h ⊢
 refine⟨h.1,?_⟩
 have h:=h.2
 revert h
 generalize (o.semAt F.round a.eval).run P w=res
 intro h
 unfold Oper.uponIn at h ⊢
 split at h
 ·exact hK _ _ h
 ·exact hK _ _ h
 ·exact hK _ _ h
 ·exact⟨h.1,h.2.mono fun e w' he=>by cases e <;> first | exact hK _ _ he | exact he⟩
 ·exact⟨h.1,h.2.mono fun v w' he=>hK _ _ he⟩
 ·exact⟨h.1,h.2.mono fun e w' he=>by cases e <;> first | exact hK _ _ he | exact he⟩
 ·exact h
 ·exact h.elim
theorem ys_put {ys:List Ky} {yv:Value} {a:Act} {d:Option Tmp} {v:Value} (hy:YS ys yv a.tmps) (hd:∀ t,d=some t->zy t∉ys):YS ys yv (a.put d v).tmps:=by
 intro t ht
 cases d with
 | none=>exact hy t ht
 | some t0=>
  have hne:t0≠t:=fun e=>hd t0 rfl (by rw[e];exact ht)
  show (a.tmps.setIfInBounds t0 v)[t]? = some yv
  rw[Array.getElem?_setIfInBounds,if_neg hne]
  exact hy t ht
section
variable {ι:Type} {M:ι->Md} {lb:ι->Nat}
theorem zuk {Y:Ty} {all:List Oper} {o:Oper} {x:OI} (hx:zcg Y N all o=some x) {ys:List Ky} (h:dstOk ys x=true):∀ t,o.dst=some t->zy t∉ys:=by
 intro t ht hm
 obtain⟨d,g,hd,_,hh⟩:=zao hx
 rw[ht]at hd
 simp only[zk9]at hd
 split at hd
 ·simp at hd;subst hd
  have:zcS ys (zy t)=true:=(zdr _ _).2 hm
  rcases hh with ⟨i,_,rfl⟩ | ⟨cl,_,_,_,_,_,_,_,rfl⟩
  ·have h:bc (zcS ys (zy t)) false true=true:=h
   rw[this]at h;cases h
  ·have h:bc (zcS ys (zy t)) false true=true:=h
   rw[this]at h;cases h
 ·simp at hd
theorem zpU {Y:Ty} (hY:TyOk P Y) {ops:Array Oper} {o:Oper} {x:OI} (hx:zcg Y N ops.toList o=some x) {c:YX} (hcall:zk E P c.call) (hM:∀ i,MdOk E (M i))
  {fr:Fr} {h:H} {fa:Fa} {ys:List Ky} {pd:Pd} {k:KY1} (hfa:FaOk E fa) (hk:zg2 x c fr h fa ys pd k=0) :
  ∃ fr' h' fa' ys' pd',k fr' h' fa' ys' pd'=0/\FaOk E fa'/\∀ i r n ρ w a Q,Sat E ρ h w->yr E ρ h.n.toNat fr (a:Act).tmps->N<=a.tmps.size->YS ys (zbv (lb i)) a.tmps->(M i).J pd a.defers ρ h w ->
   zjG r n P ops o a w (AtY E N (M i) (zbv (lb i)) ρ h w fr' h' ys' pd') Q:=by
 obtain⟨hd,hk⟩:=zK (show bc (dstOk ys x) _ 1=0 from hk) (by simp)
 have hd:=zuk hx hd
 obtain⟨fr',h',fa',hk,hfa',zr⟩:=zg1 hY hx (c:=c.x) hcall hfa hk
 refine⟨fr',h',fa',ys,pd,hk,hfa',fun i r n ρ w a Q hs hf hN hy hJ=>?_⟩
 have fin:∀ v w',At E N [] ρ h w fr' h' ((⟨a.tmps,[]⟩:Act).put o.dst v) w'->AtY E N (M i) (zbv (lb i)) ρ h w fr' h' ys pd (a.put o.dst v) w':=by
  rintro v w' ⟨ρ',f1,n1,d1,s1,x1⟩
  rw[zst]at f1 n1
  obtain⟨j1,x2⟩:=(hM i).step hs s1 x1 hJ
  exact⟨ρ',f1,n1,ys_put hy hd,s1,by rw[put_defers];exact j1,x2⟩
 unfold zjG
 rcases zr ρ w ⟨a.tmps,[]⟩ (fun _ _ _=>False) hs hf hN rfl with ⟨hw,hwp⟩ | ⟨hw,hA⟩
 ·rw[if_pos hw]
  refine zfY ?_ (op_in (zhY hx) (fun a w hA=>hA.choose_spec.2.2.1) hwp)
  rintro a' w' ⟨v,hv,rfl⟩
  exact fin v w' hv
 ·have hw:Region.wanted o (yielded ops a.tmps)=false:=hw
  rw[if_neg (by simp[hw])]
  exact⟨fun _ _=>trivial,fin undef w hA⟩
theorem zcW {α:Type} {x:Option α} (h:zfF x=false):x=none:=by cases x with
 | none=>rfl
 | some a=>cases h
theorem zev {x:Bool} {a e:Nat} (h:bc x e a=0) (he:e≠0):x=false/\a=0:=by
 cases x with
 | false=>exact⟨rfl,h⟩
 | true=>exact absurd h he
theorem zjC {t:Nat} {d:Option Ky} (h:zk9 N (some t)=some d):t<N:=by
 simp only[zk9]at h
 split at h
 ·rename_i hh;simpa using hh
 ·simp at h
theorem mv_run {o:Oper} {t:Nat} (hop:o.op=.move (.tmp t)\/o.op=.assign (.tmp t)) (a:Act) (w:World):(execOp a.eval o).run P w=.ok (.value (a.eval (.tmp t))) w:=by
 rcases hop with h | h <;> simp[execOp,h]
theorem zpT {Y:Ty} (hY:TyOk P Y) {ops:Array Oper} {o:Oper} {x:YO} (hx:zox Y N ops.toList o=some x) {c:YX} (hcall:zk E P c.call) (hM:∀ i,MdOk E (M i)) (hh:zh8 E P M lb c.hand)
  {fr:Fr} {h:H} {fa:Fa} {ys:List Ky} {pd:Pd} {k:KY1} (hfa:FaOk E fa) (hk:zoL x c fr h fa ys pd k=0) :
  ∃ fr' h' fa' ys' pd',k fr' h' fa' ys' pd'=0/\FaOk E fa'/\∀ i r n ρ w a Q,Sat E ρ h w->yr E ρ h.n.toNat fr (a:Act).tmps->N<=a.tmps.size->YS ys (zbv (lb i)) a.tmps->(M i).J pd a.defers ρ h w ->
   zjG r n P ops o a w (AtY E N (M i) (zbv (lb i)) ρ h w fr' h' ys' pd') Q:=by
 unfold zox at hx
 split at hx
 ·simp at hx
 rename_i x0 hx0
 have plain:∀ k',zg2 x0 c fr h fa ys pd k=0->_:=fun (k':Unit) hk=>zpU (M:=M) (lb:=lb) hY hx0 hcall hM hfa hk
 have mv:∀ d t,o.guard=none->o.dst=some d->(o.op=.move (.tmp t)\/o.op=.assign (.tmp t))->zoL (.mv (zy d) (zy t) x0) c fr h fa ys pd k=0->_:=fun d t hg hdst hop hk=>by
  have hk:bc (zcS ys (zy t)) (bc (zfF (fr.get (zy d))) 1 (k fr h fa (zy d::ys) pd)) (zg2 x0 c fr h fa ys pd k)=0:=hk
  cases hm:zcS ys (zy t) with
  | false=>rw[hm]at hk;exact plain () hk
  | true=>
   rw[hm]at hk
   obtain⟨hd0,hk⟩:=zev (show bc (zfF (fr.get (zy d))) 1 _=0 from hk) (by simp)
   have hd0:=zcW hd0
   have hlt:d<N:=by
    obtain⟨d',g',hd',_⟩:=zao hx0
    rw[hdst]at hd'
    exact zjC hd'
   refine⟨fr,h,fa,zy d::ys,pd,hk,hfa,fun i r n ρ w a Q hs hf hN hy hJ=>?_⟩
   have hyt:=hy t ((zdr _ _).1 hm)
   unfold zjG
   rw[if_pos (by simp[Region.wanted,hg])]
   unfold Oper.wpIn
   refine⟨fun _ _=>trivial,?_⟩
   rw[show o.semAt (Fd r).round a.eval=execOp a.eval o from Oper.semAt_eq r a.eval o (zhY hx0),mv_run hop]
   show AtY E N (M i) (zbv (lb i)) ρ h w fr h (zy d::ys) pd (a.put o.dst (a.eval (.tmp t))) w
   have hev:a.eval (.tmp t)=zbv (lb i):=by simp[Act.eval,hyt]
   rw[hev,hdst]
   have hds:d<a.tmps.size:=Nat.lt_of_lt_of_le hlt hN
   refine⟨ρ,fun s v hv=>?_,by simpa [Act.put] using hN,fun s hs2=>?_,hs,hJ,Ext.refl ρ h _ (fun p o hp=>(hs.bd p o hp).1)⟩
   ·have hsd:d≠s:=fun e=>by subst e;rw[hd0]at hv;cases hv
    obtain⟨g1,g2⟩:=hf s v hv
    refine⟨?_,g2⟩
    show (a.tmps.setIfInBounds d (zbv (lb i)))[s]? = _
    rw[Array.getElem?_setIfInBounds,if_neg hsd];exact g1
   ·show (a.tmps.setIfInBounds d (zbv (lb i)))[s]? = _
    rw[Array.getElem?_setIfInBounds]
    by_cases hsd:d=s
    ·rw[if_pos hsd,if_pos hds]
    ·rw[if_neg hsd]
     rcases List.mem_cons.1 hs2 with e | e
     ·exact absurd (ze2 e).symm hsd
     ·exact hy s e
 split at hx
 ·rename_i d t hg hdst hop
  simp at hx;subst hx
  exact mv d t hg hdst (.inl hop) hk
 ·rename_i d t hg hdst hop
  simp at hx;subst hx
  exact mv d t hg hdst (.inr hop) hk
 ·rename_i d cl hg hdst hop
  split at hx
  ·rename_i t l hcal hl
   simp at hx;subst hx
   have hk:bc (zcS ys (zy t)) (bc (zcS ys (zy d)) 1 (bc (zfF pd) 1 (oc (ods l fr) (fun l=>c.hand l h fa (fun b h fa pd=>zeM (zy d) fr (.b b) (fun fr=>k fr h fa ys pd))) 1))) (zg2 x0 c fr h fa ys pd k)=0:=hk
   cases hm:zcS ys (zy t) with
   | false=>rw[hm]at hk;exact plain () hk
   | true=>
    rw[hm]at hk
    obtain⟨hd0,hk⟩:=zev (show bc (zcS ys (zy d)) 1 _=0 from hk) (by simp)
    obtain⟨hp0,hk⟩:=zev hk (by simp)
    have hp0:=zcW hp0
    subst hp0
    obtain⟨vs,hvs,hk⟩:=z9 hk (by simp)
    obtain⟨b,h',fa',pd',hk,hfa',zr⟩:=hh vs h fa _ hk hfa
    obtain⟨fr',hk,g1,g2⟩:=zeL hk
    have hlt:d<N:=by
     obtain⟨d',g',hd',_⟩:=zao hx0
     rw[hdst]at hd'
     exact zjC hd'
    refine⟨fr',h',fa',ys,pd',hk,hfa',fun i r n ρ w a Q hs hf hN hy hJ=>?_⟩
    have hyt:=hy t ((zdr _ _).1 hm)
    obtain⟨e2,b2⟩:=zeV hf hl hvs
    have hargs:cl.args.map a.eval=(γL E ρ vs).toArray:=Array.toList_inj.1 (by rw[Array.toList_map];exact e2)
    obtain⟨fn,tmps,asg,body,hyd,hround⟩:=zr i (n - 1) ρ w a.defers b2 hs hJ
    unfold zjG
    rw[if_pos (by simp[Region.wanted,hg])]
    unfold Oper.wpIn
    refine⟨fun _ _=>trivial,?_⟩
    have hex:(execOp a.eval o).run P w=.ok (.round (lb i) fn tmps asg body) w:=by
     rw[<- hyd]
     simp[execOp,hop,resolve,hcal,Act.eval,hyt,zbv,Deferred.ofValue,invoke,hargs]
    rw[show o.semAt (Fd r).round a.eval=execOp a.eval o from Oper.semAt_eq r a.eval o (zhY hx0),hex,Oper.uponIn_round]
    refine⟨fun h=>by simp[Fd,Fence.wide]at h,RoundIn.mono hround ?_⟩
    rintro e w' ⟨rfl,ρ',s1,j1,x1⟩
    show AtY E N (M i) (zbv (lb i)) ρ h w fr' h' ys pd' (a.put o.dst (.bool b)) w'
    have hds:d<a.tmps.size:=Nat.lt_of_lt_of_le hlt hN
    refine⟨ρ',?_,by rw[hdst];simpa [Act.put] using hN,ys_put hy (fun t0 e=>by rw[hdst]at e;cases e;intro hmem;rw[(zdr _ _).2 hmem]at hd0;cases hd0),s1,by rw[put_defers];exact j1,x1⟩
    rw[hdst]
    exact(hf.mono x1.len x1.agree).set (v:=.b b) hds trivial g1 g2
  ·simp at hx;subst hx
   exact plain () hk
 ·simp at hx;subst hx
  exact plain () hk
end
end Go.Ev
end
set_option linter.unusedSimpArgs false
set_option linter.unusedVariables false
noncomputable section
namespace Go.Ev
open Go
variable {E:Env} {P:Program} {N:Nat} {ι:Type} {M:ι->Md} {lb:ι->Nat}
theorem zmg {Y:Ty} (hY:TyOk P Y) {ops:Array Oper} {c:YX} (hcall:zk E P c.call) (hM:∀ i,MdOk E (M i)) (hh:zh8 E P M lb c.hand) {k:KY1}:∀ (l:List Oper) (l':List YO) (fr:Fr) (h:H) (fa:Fa) (ys:List Ky) (pd:Pd),
  zff Y N ops.toList l=some l'->FaOk E fa->opsY l' c fr h fa ys pd k=0 ->
  ∃ fr' h' fa' ys' pd',k fr' h' fa' ys' pd'=0/\FaOk E fa'/\∀ i r n ρ w a QQ,Sat E ρ h w->yr E ρ h.n.toNat fr (a:Act).tmps->N<=a.tmps.size->YS ys (zbv (lb i)) a.tmps->(M i).J pd a.defers ρ h w ->
   (∀ a' w',AtY E N (M i) (zbv (lb i)) ρ h w fr' h' ys' pd' a' w'->QQ .normal a' w')->wpListIn (Fd r) n P ops QQ l a w
 | [],l',fr,h,fa,ys,pd,hl,hfa,hk=>by
  simp[zff]at hl;subst hl
  exact⟨fr,h,fa,ys,pd,hk,hfa,fun i r n ρ w a QQ hs hf hN hy hJ hq=>hq a w ⟨ρ,hf,hN,hy,hs,hJ,Ext.refl ρ h _ (fun p o hp=>(hs.bd p o hp).1)⟩⟩
 | o::r0,l',fr,h,fa,ys,pd,hl,hfa,hk=>by
  simp only[zff]at hl
  split at hl
  rotate_left
  ·simp at hl
  rename_i x l2 hx hl2
  simp at hl;subst hl
  have hk:zoL x c fr h fa ys pd (fun fr h fa ys pd=>opsY l2 c fr h fa ys pd k)=0:=hk
  obtain⟨fr1,h1,fa1,ys1,pd1,hk1,hfa1,h2⟩:=zpT hY hx hcall hM hh hfa hk
  obtain⟨fr2,h2',fa2,ys2,pd2,hk2,hfa2,h3⟩:=zmg hY hcall hM hh r0 l2 fr1 h1 fa1 ys1 pd1 hl2 hfa1 hk1
  refine⟨fr2,h2',fa2,ys2,pd2,hk2,hfa2,fun i r n ρ w a QQ hs hf hN hy hJ hq=>?_⟩
  have next:∀ a1 w1,AtY E N (M i) (zbv (lb i)) ρ h w fr1 h1 ys1 pd1 a1 w1->wpListIn (Fd r) n P ops QQ r0 a1 w1:=by
   rintro a1 w1 ⟨ρ1,f1,n1,y1,s1,j1,x1⟩
   exact h3 i r n ρ1 w1 a1 QQ s1 f1 n1 y1 j1 (fun a' w' hA=>hq a' w' (hA.trans x1))
  have h4:=h2 i r n ρ w a QQ hs hf hN hy hJ
  unfold zjG at h4
  unfold wpListIn
  split at h4
  ·rename_i hw
   rw[if_pos hw]
   exact zfY next h4
  ·rename_i hw
   rw[if_neg hw]
   exact⟨h4.1,next _ _ h4.2⟩
def zpK (E:Env) (P:Program) (N:Nat) (M:ι->Md) (lb:ι->Nat) (rg:Bool) (c:Code) (fr:Fr) (h:H) (ys:List Ky) (pd:Pd) (k:KY):Prop:=
 ∃ ae fr' h' fa' ys' pd',k ae fr' h' fa' ys' pd'=0/\FaOk E fa'/\∀ i r n ρ w a QQ,(rg=true->r=none)->Sat E ρ h w->yr E ρ h.n.toNat fr (a:Act).tmps->N<=a.tmps.size->YS ys (zbv (lb i)) a.tmps->(M i).J pd a.defers ρ h w ->
  (∀ a' w',AtY E N (M i) (zbv (lb i)) ρ h w fr' h' ys' pd' a' w'->QQ (AE.exit' ae) a' w')->c.wpIn (Fd r) n P QQ a w
theorem ziO {c:YX} {fr:Fr} {h:H} {fa:Fa} {ys:List Ky} {pd:Pd} {k:KY} (hk:zab .bad c fr h fa ys pd k=0):False:=absurd (show (1:Nat)=0 from hk) (by simp)
theorem jZ {Y:Ty} (hY:TyOk P Y) {c:YX} (hcall:zk E P c.call) (hM:∀ i,MdOk E (M i)) (hh:zh8 E P M lb c.hand) {rg sc:Bool} (hsc:sc=true->rg=true)
  (hrng:∀ g ps x y fr h fa ys pd k,FaOk E fa->zab (yT Y N (.rangeFunc g ps x y) sc) c fr h fa ys pd k=0->zpK E P N M lb rg (.rangeFunc g ps x y) fr h ys pd k) :
  ∀ (cd:Code) (fr:Fr) (h:H) (fa:Fa) (ys:List Ky) (pd:Pd) (k:KY),FaOk E fa->zab (yT Y N cd sc) c fr h fa ys pd k=0->zpK E P N M lb rg cd fr h ys pd k
 | .skip,fr,h,fa,ys,pd,k,hfa,hk=>⟨.normal,fr,h,fa,ys,pd,hk,hfa,fun i r n ρ w a QQ hr hs hf hN hy hJ hQ=>wpIn_skip (hQ _ _ ⟨ρ,hf,hN,hy,hs,hJ,Ext.refl ρ h _ (fun p o hp=>(hs.bd p o hp).1)⟩)⟩
 | .ret,fr,h,fa,ys,pd,k,hfa,hk=>⟨.ret,fr,h,fa,ys,pd,hk,hfa,fun i r n ρ w a QQ hr hs hf hN hy hJ hQ=>wpIn_ret (hQ _ _ ⟨ρ,hf,hN,hy,hs,hJ,Ext.refl ρ h _ (fun p o hp=>(hs.bd p o hp).1)⟩)⟩
 | .exit j,fr,h,fa,ys,pd,k,hfa,hk=>⟨.exit j,fr,h,fa,ys,pd,hk,hfa,fun i r n ρ w a QQ hr hs hf hN hy hJ hQ=>wpIn_exit (hQ _ _ ⟨ρ,hf,hN,hy,hs,hJ,Ext.refl ρ h _ (fun p o hp=>(hs.bd p o hp).1)⟩)⟩
 | .seq x y,fr,h,fa,ys,pd,k,hfa,hk=>by
  have hk:zab (yT Y N x sc) c fr h fa ys pd (fun e fr h fa ys pd=>zbU e (zab (yT Y N y sc) c fr h fa ys pd k) (k .ret fr h fa ys pd) (fun i=>k (.exit i) fr h fa ys pd))=0:=hk
  obtain⟨ae,fr1,h1,fa1,ys1,pd1,hk1,hfa1,r1⟩:=jZ hY hcall hM hh hsc hrng x fr h fa ys pd _ hfa hk
  cases ae with
  | normal=>
   obtain⟨ae,fr2,h2,fa2,ys2,pd2,hk2,hfa2,r2⟩:=jZ hY hcall hM hh hsc hrng y fr1 h1 fa1 ys1 pd1 k hfa1 hk1
   refine⟨ae,fr2,h2,fa2,ys2,pd2,hk2,hfa2,fun i r n ρ w a QQ hr hs hf hN hy hJ hQ=>wpIn_seq (r1 i r n ρ w a _ hr hs hf hN hy hJ ?_)⟩
   rintro a1 w1 ⟨ρ1,f1,n1,y1,s1,j1,x1⟩
   exact r2 i r n ρ1 w1 a1 QQ hr s1 f1 n1 y1 j1 fun a' w' hA=>hQ a' w' (hA.trans x1)
  | ret=>exact⟨.ret,fr1,h1,fa1,ys1,pd1,hk1,hfa1,fun i r n ρ w a QQ hr hs hf hN hy hJ hQ=>wpIn_seq (r1 i r n ρ w a _ hr hs hf hN hy hJ hQ)⟩
  | exit j=>exact⟨.exit j,fr1,h1,fa1,ys1,pd1,hk1,hfa1,fun i r n ρ w a QQ hr hs hf hN hy hJ hQ=>wpIn_seq (r1 i r n ρ w a _ hr hs hf hN hy hJ hQ)⟩
 | .cond o x y,fr,h,fa,ys,pd,k,hfa,hk=>by
  cases o with
  | tmp t=>
   have hk:way fa (fr.get (zy t)) (fun b fa=>bc b (zab (yT Y N x sc) c fr h fa ys pd k) (zab (yT Y N y sc) c fr h fa ys pd k)) 1=0:=hk
   obtain⟨v,b,fa',hv,hb,hfa',hk⟩:=znt hk (by simp) hfa (fun _=>⟨0,0⟩)
   have hev:∀ ρ n (a:Act),yr E ρ n fr a.tmps->a.eval (.tmp t)=.bool b:=by
    intro ρ n a hf
    have h1:=(hf t v hv).1
    have h2:v.γ E ρ=.bool b:=by cases v <;> simp[V.γ]at hb ⊢ <;> exact hb
    simp[Act.eval,h1,h2]
   cases b with
   | true=>
    obtain⟨ae,fr1,h1,fa1,ys1,pd1,hk1,hfa1,r1⟩:=jZ hY hcall hM hh hsc hrng x fr h fa' ys pd k hfa' hk
    exact⟨ae,fr1,h1,fa1,ys1,pd1,hk1,hfa1,fun i r n ρ w a QQ hr hs hf hN hy hJ hQ=>wpIn_cond_true (hev ρ _ a hf) (r1 i r n ρ w a QQ hr hs hf hN hy hJ hQ)⟩
   | false=>
    obtain⟨ae,fr1,h1,fa1,ys1,pd1,hk1,hfa1,r1⟩:=jZ hY hcall hM hh hsc hrng y fr h fa' ys pd k hfa' hk
    exact⟨ae,fr1,h1,fa1,ys1,pd1,hk1,hfa1,fun i r n ρ w a QQ hr hs hf hN hy hJ hQ=>wpIn_cond_false (hev ρ _ a hf) (r1 i r n ρ w a QQ hr hs hf hN hy hJ hQ)⟩
  | _=>exact(ziO hk).elim
 | .block j x,fr,h,fa,ys,pd,k,hfa,hk=>by
  have hk:zab (yT Y N x sc) c fr h fa ys pd (fun e fr h fa ys pd=>zbU e (k .normal fr h fa ys pd) (k .ret fr h fa ys pd) (fun i=>bc (Nat.beq i j) (k .normal fr h fa ys pd) (k (.exit i) fr h fa ys pd)))=0:=hk
  obtain⟨ae,fr1,h1,fa1,ys1,pd1,hk1,hfa1,r1⟩:=jZ hY hcall hM hh hsc hrng x fr h fa ys pd _ hfa hk
  cases ae with
  | normal=>exact⟨.normal,fr1,h1,fa1,ys1,pd1,hk1,hfa1,fun i r n ρ w a QQ hr hs hf hN hy hJ hQ=>wpIn_block (r1 i r n ρ w a _ hr hs hf hN hy hJ hQ)⟩
  | ret=>exact⟨.ret,fr1,h1,fa1,ys1,pd1,hk1,hfa1,fun i r n ρ w a QQ hr hs hf hN hy hJ hQ=>wpIn_block (r1 i r n ρ w a _ hr hs hf hN hy hJ hQ)⟩
  | exit m=>
   have hk2:bc (Nat.beq m j) (k .normal fr1 h1 fa1 ys1 pd1) (k (.exit m) fr1 h1 fa1 ys1 pd1)=0:=hk1
   clear hk1
   cases hj:Nat.beq m j with
   | true=>
    rw[hj]at hk2
    have hj:m=j:=by simpa using hj
    subst hj
    refine⟨.normal,fr1,h1,fa1,ys1,pd1,hk2,hfa1,fun i r n ρ w a QQ hr hs hf hN hy hJ hQ=>wpIn_block (r1 i r n ρ w a _ hr hs hf hN hy hJ fun a' w' hA=>?_)⟩
    show Exit.inBlock m _ (.exit m) a' w'
    simp only[Exit.inBlock,if_true]
    exact hQ a' w' hA
   | false=>
    rw[hj]at hk2
    have hj:¬ m=j:=by
     intro e;subst e;simp at hj
    refine⟨.exit m,fr1,h1,fa1,ys1,pd1,hk2,hfa1,fun i r n ρ w a QQ hr hs hf hN hy hJ hQ=>wpIn_block (r1 i r n ρ w a _ hr hs hf hN hy hJ fun a' w' hA=>?_)⟩
    show Exit.inBlock j _ (.exit m) a' w'
    simp only[Exit.inBlock,hj,if_false]
    exact hQ a' w' hA
 | .loop x,fr,h,fa,ys,pd,k,hfa,hk=>by
  obtain⟨lp,hlp⟩:∃ lp:Nat->Fr->H->Fa->List Ky->Pd->KY->Nat,lp=fun m=>Nat.rec (motive:=fun _=>Fr->H->Fa->List Ky->Pd->KY->Nat) (fun _ _ _ _ _ _=>1)
   (fun _ ih fr h fa ys pd k=>zab (yT Y N x sc) c fr h fa ys pd (fun e fr h fa ys pd=>zbU e (ih fr h fa ys pd k) (k .ret fr h fa ys pd) (fun i=>k (.exit i) fr h fa ys pd))) m:=⟨_,rfl⟩
  have key:∀ m fr h fa ys pd,FaOk E fa->lp m fr h fa ys pd k=0->∃ ae fr' h' fa' ys' pd',k ae fr' h' fa' ys' pd'=0/\FaOk E fa'/\∀ i r n ρ w a QQ,(rg=true->r=none)->Sat E ρ h w->yr E ρ h.n.toNat fr (a:Act).tmps->N<=a.tmps.size ->
    YS ys (zbv (lb i)) a.tmps->(M i).J pd a.defers ρ h w->(∀ a' w',AtY E N (M i) (zbv (lb i)) ρ h w fr' h' ys' pd' a' w'->QQ (AE.exit' ae) a' w')->Code.roundsIn (Fd r) n P x QQ m a w:=by
   intro m
   induction m with
   | zero=>intro fr h fa ys pd hfa hk;subst hlp;exact absurd (show (1:Nat)=0 from hk) (by simp)
   | succ m ih=>
    intro fr h fa ys pd hfa hk
    have hk:zab (yT Y N x sc) c fr h fa ys pd (fun e fr h fa ys pd=>zbU e (lp m fr h fa ys pd k) (k .ret fr h fa ys pd) (fun i=>k (.exit i) fr h fa ys pd))=0:=by subst hlp;exact hk
    obtain⟨ae,fr1,h1,fa1,ys1,pd1,hk1,hfa1,r1⟩:=jZ hY hcall hM hh hsc hrng x fr h fa ys pd _ hfa hk
    cases ae with
    | normal=>
     obtain⟨ae,fr2,h2,fa2,ys2,pd2,hk2,hfa2,r2⟩:=ih fr1 h1 fa1 ys1 pd1 hfa1 hk1
     refine⟨ae,fr2,h2,fa2,ys2,pd2,hk2,hfa2,fun i r n ρ w a QQ hr hs hf hN hy hJ hQ=>?_⟩
     rw[roundsIn_succ]
     refine r1 i r n ρ w a _ hr hs hf hN hy hJ ?_
     rintro a1 w1 ⟨ρ1,f1,n1,y1,s1,j1,x1⟩
     exact r2 i r n ρ1 w1 a1 QQ hr s1 f1 n1 y1 j1 fun a' w' hA=>hQ a' w' (hA.trans x1)
    | ret=>exact⟨.ret,fr1,h1,fa1,ys1,pd1,hk1,hfa1,fun i r n ρ w a QQ hr hs hf hN hy hJ hQ=>(by rw[roundsIn_succ];exact r1 i r n ρ w a _ hr hs hf hN hy hJ hQ)⟩
    | exit j=>exact⟨.exit j,fr1,h1,fa1,ys1,pd1,hk1,hfa1,fun i r n ρ w a QQ hr hs hf hN hy hJ hQ=>(by rw[roundsIn_succ];exact r1 i r n ρ w a _ hr hs hf hN hy hJ hQ)⟩
  obtain⟨ae,fr2,h2,fa2,ys2,pd2,hk2,hfa2,r2⟩:=key c.fuel fr h fa ys pd hfa (by subst hlp;exact hk)
  exact⟨ae,fr2,h2,fa2,ys2,pd2,hk2,hfa2,fun i r n ρ w a QQ hr hs hf hN hy hJ hQ=>wpIn_loop_rounds _ (r2 i r n ρ w a QQ hr hs hf hN hy hJ hQ)⟩
 | .region id ops false,fr,h,fa,ys,pd,k,hfa,hk=>by
  simp only[yT]at hk
  split at hk
  ·rename_i l hl
   obtain⟨fr2,h2',fa2,ys2,pd2,hk2,hfa2,ho⟩:=zmg hY hcall hM hh _ _ fr h fa ys pd hl hfa (show opsY l c fr h fa ys pd (fun fr h fa ys pd=>k .normal fr h fa ys pd)=0 from hk)
   exact⟨.normal,fr2,h2',fa2,ys2,pd2,hk2,hfa2,fun i r n ρ w a QQ hr hs hf hN hy hJ hQ=>wpIn_region_list (ho i r n ρ w a QQ hs hf hN hy hJ hQ)⟩
  ·exact(ziO hk).elim
 | .rangeFunc f ps x y,fr,h,fa,ys,pd,k,hfa,hk=>hrng f ps x y fr h fa ys pd k hfa hk
 | .region id ops true,fr,h,fa,ys,pd,k,hfa,hk=>(ziO hk).elim
 | .scope x,fr,h,fa,ys,pd,k,hfa,hk=>by
  have hk:zab (bc sc (yT Y N x sc) .bad) c fr h fa ys pd k=0:=hk
  cases hs0:sc with
  | false=>rw[hs0]at hk;exact(ziO hk).elim
  | true=>
   have hk:zab (yT Y N x sc) c fr h fa ys pd k=0:=by rw[hs0]at hk ⊢;exact hk
   obtain⟨ae,fr1,h1,fa1,ys1,pd1,hk1,hfa1,r1⟩:=jZ hY hcall hM hh hsc hrng x fr h fa ys pd k hfa hk
   refine⟨ae,fr1,h1,fa1,ys1,pd1,hk1,hfa1,fun i r n ρ w a QQ hr hs hf hN hy hJ hQ=>?_⟩
   have hr0:=hr (hsc hs0)
   subst hr0
   exact(wpIn_wide (n:=n)).2 (wp_scope_straight ((wpIn_wide (n:=n)).1 (r1 i none n ρ w a _ hr hs hf hN hy hJ (by cases ae <;> exact hQ))))
 | .label l,fr,h,fa,ys,pd,k,hfa,hk=>⟨.normal,fr,h,fa,ys,pd,hk,hfa,fun i r n ρ w a QQ hr hs hf hN hy hJ hQ=>wpIn_label (hQ _ _ ⟨ρ,hf,hN,hy,hs,hJ,Ext.refl ρ h _ (fun p o hp=>(hs.bd p o hp).1)⟩)⟩
 | .goto l,fr,h,fa,ys,pd,k,hfa,hk=>(ziO hk).elim
 | .refuse s,fr,h,fa,ys,pd,k,hfa,hk=>(ziO hk).elim
theorem nilL_ok {α:Type} {l:List α} (h:nilL l=true):l=[]:=by cases l with
 | nil=>rfl
 | cons a r=>cases h
theorem zfz {Y:Ty} {c:YX} (hc:c.itr=zhw) {rg sc:Bool}:∀ g ps x y fr h fa ys pd k,FaOk E fa->zab (yT Y N (.rangeFunc g ps x y) sc) c fr h fa ys pd k=0->zpK E P N M lb rg (.rangeFunc g ps x y) fr h ys pd k:=by
 intro g ps x y fr h fa ys pd k hfa hk
 exfalso
 simp only[yT]at hk
 split at hk
 ·split at hk
  ·rename_i g' _ _
   obtain⟨_,hk⟩:=zev (show bc (zfF pd) 1 (vFn (od g' fr) _ 1)=0 from hk) (by simp)
   generalize od g' fr=q at hk
   unfold vFn at hk
   split at hk
   ·obtain⟨_,hk⟩:=zK hk (by simp)
    rw[hc]at hk
    exact absurd (show (1:Nat)=0 from hk) (by simp)
   ·cases hk
  ·exact ziO hk
 ·exact ziO hk
end Go.Ev
end
set_option linter.unusedSimpArgs false
set_option linter.unusedVariables false
noncomputable section
namespace Go.Ev
open Go
variable {E:Env} {P:Program} {N:Nat}
def Unb (b:Nat) (ρ:Rho) (h:H):Prop:=∀ p o,h.t.get p=some o->o.live=true->(ρ p).b≠b
theorem zaT {b:Nat} {ρ ρ':Rho} {h h':H} {w w':World} (x:Ext ρ h w ρ' h' w') (hu:Unb b ρ h) (hb:b<w.heap.size):Unb b ρ' h'/\w'.heap[b]? = w.heap[b]?:=by
 refine⟨fun p o hp hl=>?_,x.keep b hb fun p o hp hl _=>hu p o hp hl⟩
 by_cases hn:p.toNat<h.n.toNat
 ·obtain⟨o0,h0,l0⟩:=x.liv p o hn hp hl
  rw[x.agree p hn];exact hu p o0 h0 l0
 ·rcases x.new p o (by omega) hp hl with h1 | ⟨q,o',h1,h2,_,h3⟩
  ·omega
  ·rw[<- h3];exact hu q o' h1 h2
theorem zgz {b:Nat} {X:Obj} {ρ:Rho} {h:H} {w:World} (s:Sat E ρ h w) (hu:Unb b ρ h):Sat E ρ h (w.putObj b X):=
 ⟨fun p o hp=>O.Is_heap E (fun hl=>World.putObj_heap_other (hu p o hp hl)) (s.obj p o hp),s.inj,s.bd⟩
theorem zhP {b:Nat} {X:Obj} {ρ ρ':Rho} {h h':H} {w w':World} (x:Ext ρ h w ρ' h' w') (hb:b<w.heap.size):Ext ρ h (w.putObj b X) ρ' h' (w'.putObj b X):=by
 refine⟨x.len,x.lo,x.agree,fun p o h1 h2 h3=>by rw[World.putObj_size];exact x.new p o h1 h2 h3,x.os,x.tape,x.output,by rw[World.putObj_size,World.putObj_size];exact x.size,fun c hc hno=>?_,x.old,x.liv⟩
 rw[World.putObj_size]at hc
 by_cases e:c=b
 ·subst e
  rw[World.putObj_heap_same hc,World.putObj_heap_same (Nat.lt_of_lt_of_le hc x.size)]
 ·rw[World.putObj_heap_other e,World.putObj_heap_other e]
  exact x.keep c hc hno
theorem zhp {b:Nat} {X Y:Obj} {w:World}:(w.putObj b X).putObj b Y=w.putObj b Y:=by
 unfold World.putObj
 congr 1
 apply Array.ext_getElem?
 intro i
 simp only[Array.getElem?_setIfInBounds]
 by_cases e:b=i
 ·simp[e]
 ·simp[e]
theorem ziZ {ρ:Rho} {h:H} {w:World} (s:Sat E ρ h w) (o:Obj):Sat E ρ h (w.alloc o):=
 ⟨fun p x hp=>O.Is_heap E (fun hl=>by
  have hlt:(ρ p).b<w.heap.size:=O.Is_lt E (s.obj p x hp) hl
  show (w.heap.push o)[(ρ p).b]? = w.heap[(ρ p).b]?
  rw[Array.getElem?_push,if_neg (by omega)]) (s.obj p x hp),s.inj,s.bd⟩
theorem zoK {ρ:Rho} {h:H} {w:World} (s:Sat E ρ h w) {b:Nat} (hb:w.heap.size<=b):Unb b ρ h:=fun p o hp hl=>by
 have:(ρ p).b<w.heap.size:=O.Is_lt E (s.obj p o hp) hl
 omega
def zkv:Md:=⟨fun w=>w,fun _ ds _ _ _=>ds=[]⟩
theorem zhu:MdOk E zkv:=⟨fun _ _ x hj=>⟨hj,x⟩⟩
def zn0 (b:Nat):Deferred:={ target:=.collected b,args:=#[] }
def zk8 (B:Nat):Md:=⟨fun w=>w,fun pd ds ρ h w=>(B<=w.heap.size/\pd=none/\ds=[])\/(pd=some .normal/\∃ b,B<=b/\ds=[zn0 b]/\w.heap[b]? = some (.deferred (some []))/\Unb b ρ h)⟩
theorem zq2 (B:Nat):MdOk E (zk8 B):=⟨fun s s' x hj=>⟨by
 rcases hj with ⟨h1,h2,h3⟩ | ⟨h1,b,h2,h3,h4,h5⟩
 ·exact .inl ⟨Nat.le_trans h1 x.size,h2,h3⟩
 ·obtain⟨h6,h7⟩:=zaT x h5 (Array.getElem?_eq_some_iff.1 h4).1
  exact .inr ⟨h1,b,h2,h3,h7.trans h4,h6⟩,x⟩⟩
structure LS where
 fr:Fr
 ps:Array Tmp
 as:Code
 bd:Code
 N:Nat
structure LI where
 b:Nat
 D:Nat
 T:Array Value
 fn:FuncId
def pdCode:AE->Code
 | .normal=>.skip
 | .ret=>.ret
 | .exit i=>.exit i
def zoU (s:LS) (i:LI) (st:LoopState) (pe:Option Code):Loop:={ state:=st,pending:=pe,fn:=i.fn,tmps:=i.T,params:=s.ps,assign:=s.as,body:=s.bd,defers:=i.D }
def zbK (s:LS) (i:LI):Pd->Loop
 | none=>zoU s i .ready none
 | some e=>zoU s i .done (some (pdCode e))
def jF (E:Env) (s:LS) (i:LI):Md:=⟨fun w=>w.putObj i.b (.deferred none),fun pd ds ρ h w=>ds=[]/\w.heap[i.b]? = some (.loop (zbK s i pd))/\w.heap[i.D]? = some (.deferred (some []))/\i.D≠i.b /\
 Unb i.b ρ h/\Unb i.D ρ h/\yr E ρ h.n.toNat s.fr i.T/\s.N<=i.T.size⟩
theorem zqG (s:LS) (i:LI):MdOk E (jF E s i):=⟨fun hs hs' x hj=>by
 obtain⟨h1,h2,h3,h4,h5,h6,h7,h8⟩:=hj
 have hb:=(Array.getElem?_eq_some_iff.1 h2).1
 obtain⟨u1,k1⟩:=zaT x h5 hb
 obtain⟨u2,k2⟩:=zaT x h6 (Array.getElem?_eq_some_iff.1 h3).1
 exact⟨⟨h1,k1.trans h2,k2.trans h3,h4,u1,u2,h7.mono x.len x.agree,h8⟩,zhP x hb⟩⟩
theorem zjE:∀ (ps:List Nat) (l:List V) (fr:Fr) (k:Fr->Nat),zh2 (ps.map zy) l fr k=0->∃ fr',k fr'=0/\ps.length=l.length /\
  ∀ (E:Env) ρ n (T:Array Value),(∀ p∈ps,p<T.size)->yr E ρ n fr T->bdL n l->yr E ρ n fr' ((ps.zip (γL E ρ l)).foldl (fun t (p:Nat × Value)=>t.setIfInBounds p.1 p.2) T)/\((ps.zip (γL E ρ l)).foldl (fun t (p:Nat × Value)=>t.setIfInBounds p.1 p.2) T).size=T.size
 | [],[],fr,k,hk=>⟨fr,hk,rfl,fun E ρ n T _ hf _=>⟨hf,rfl⟩⟩
 | [],v::vs,fr,k,hk=>absurd (show (1:Nat)=0 from hk) (by simp)
 | p::ps,[],fr,k,hk=>absurd (show (1:Nat)=0 from hk) (by simp)
 | p::ps,v::vs,fr,k,hk=>by
  have hk:zeM (zy p) fr v (fun fr=>zh2 (ps.map zy) vs fr k)=0:=hk
  obtain⟨fr1,hk,g1,g2⟩:=zeL hk
  obtain⟨fr',hk,hl,hr⟩:=zjE ps vs fr1 k hk
  refine⟨fr',hk,by simp[hl],fun E ρ n T hp hf hb=>?_⟩
  have h1:=hr E ρ n (T.setIfInBounds p (v.γ E ρ)) (fun q hq=>by simpa using hp q (List.mem_cons_of_mem _ hq)) (hf.set (hp p List.mem_cons_self) hb.1 g1 g2) hb.2
  simp only[γL,List.zip_cons_cons,List.foldl_cons]
  exact⟨h1.1,by rw[h1.2];simp⟩
def pdOf:AE->Pd
 | .normal=>none
 | .ret=>some .ret
 | .exit i=>some (.exit i)
def bOf:AE->Bool
 | .normal=>true
 | _=>false
theorem zsi {Y:Ty} (hY:TyOk P Y) {c:YX} (hcall:zk E P c.call) {fr:Fr} {ps:Array Tmp} {as bd:Code} (hps:∀ p∈ps.toList,p<N) :
  zh8 E P (jF E ⟨fr,ps,as,bd,N⟩) (fun i=>i.b) (roundT c fr (ps.toList.map zy) (zab (yT Y N as false)) (zab (yT Y N bd false))):=by
 intro l h fa k hk hfa
 obtain⟨fr0,hk,hlen,hbind⟩:=zjE _ _ _ _ (show zh2 (ps.toList.map zy) l fr _=0 from hk)
 obtain⟨ae,fr1,h1,fa1,ys1,pd1,hk,hfa1,r1⟩:=jZ (P:=P) (M:=fun _:Unit=>zkv) (lb:=fun _=>0) (rg:=false) hY (c:=⟨c.call,c.F,c.fuel,zel,zhw⟩) hcall (fun _=>zhu) zfA (sc:=false) (by simp) (zfz rfl) as fr0 h fa [] none _ hfa hk
 obtain⟨hp,hk⟩:=zev (show bc (zfF pd1) 1 _=0 from hk) (by simp)
 have hp:=zcW hp
 subst hp
 cases ae with
 | ret=>exact absurd (show (1:Nat)=0 from hk) (by simp)
 | exit j=>exact absurd (show (1:Nat)=0 from hk) (by simp)
 | normal=>
 obtain⟨ae,fr2,h2,fa2,ys2,pd2,hk,hfa2,r2⟩:=jZ (P:=P) (M:=fun _:Unit=>zkv) (lb:=fun _=>0) (rg:=false) hY (c:=⟨c.call,c.F,c.fuel,zel,zhw⟩) hcall (fun _=>zhu) zfA (sc:=false) (by simp) (zfz rfl) bd fr1 h1 fa1 [] none _ hfa1 hk
 obtain⟨hp,hk⟩:=zev (show bc (zfF pd2) 1 _=0 from hk) (by simp)
 have hk:k (bOf ae) h2 fa2 (pdOf ae)=0:=by cases ae <;> exact hk
 refine⟨_,_,_,_,hk,hfa2,fun i n ρ w ds hb hs hJ=>?_⟩
 obtain⟨hds,hrec,hD,hne,hu1,hu2,hf,hN⟩:=hJ
 have hlt:=(Array.getElem?_eq_some_iff.1 hrec).1
 obtain⟨hf0,hsz0⟩:=hbind E ρ h.n.toNat i.T (fun p hp=>Nat.lt_of_lt_of_le (hps p hp) hN) hf hb
 have hsize:(γL E ρ l).toArray.size=(zbK ⟨fr,ps,as,bd,N⟩ i none).params.size:=by
  show (γL E ρ l).toArray.size=ps.size
  rw[List.size_toArray,γL_length,<- hlen];simp
 refine⟨i.fn,_,as,bd,run_yield hrec hsize,roundIn_of_wpIn trivial ?_⟩
 have htm:((zbK ⟨fr,ps,as,bd,N⟩ i none).params.zip (γL E ρ l).toArray).foldl (fun tmps (x:Nat × Value)=>tmps.setIfInBounds x.1 x.2) (zbK ⟨fr,ps,as,bd,N⟩ i none).tmps=(ps.toList.zip (γL E ρ l)).foldl (fun t (p:Nat × Value)=>t.setIfInBounds p.1 p.2) i.T:=by
  show (ps.zip (γL E ρ l).toArray).foldl (fun tmps (x:Nat × Value)=>tmps.setIfInBounds x.1 x.2) i.T=_
  rw[<- Array.foldl_toList,Array.toList_zip]
 rw[show (((zbK ⟨fr,ps,as,bd,N⟩ i none).params.zip (γL E ρ l).toArray).foldl (fun tmps x=>match x with | (t,a)=>tmps.setIfInBounds t a) (zbK ⟨fr,ps,as,bd,N⟩ i none).tmps)=_ from htm]
 refine r1 () (some i.b) n ρ w ⟨_,[]⟩ _ (by simp) hs hf0 (by show N<=_;rw[hsz0];exact hN) (fun t ht=>by cases ht) rfl ?_
 rintro a1 w1 ⟨ρ1,f1,n1,_,s1,d1,x1⟩
 have x1:Ext ρ h w ρ1 h1 w1:=x1
 obtain⟨u1,k1⟩:=zaT x1 hu1 hlt
 obtain⟨u2,k2⟩:=zaT x1 hu2 (Array.getElem?_eq_some_iff.1 hD).1
 have hlt1:i.b<w1.heap.size:=Nat.lt_of_lt_of_le hlt x1.size
 refine⟨_,run_beginRound (k1.trans hrec) rfl,?_⟩
 refine r2 () (some i.b) n ρ1 _ a1 _ (by simp) (zgz s1 u1) f1 n1 (fun t ht=>by cases ht) d1 ?_
 rintro a2 w3 ⟨ρ2,f2,n2,_,s2,d2,x2⟩
 have x2:Ext ρ1 h1 (w1.putObj i.b (.loop { zbK ⟨fr,ps,as,bd,N⟩ i none with state:=.busy })) ρ2 h2 w3:=x2
 have hlt2:i.b<(w1.putObj i.b (.loop { zbK ⟨fr,ps,as,bd,N⟩ i none with state:=.busy })).heap.size:=by rw[World.putObj_size];exact hlt1
 obtain⟨u3,k3⟩:=zaT x2 u1 hlt2
 have hD1:(w1.putObj i.b (.loop { zbK ⟨fr,ps,as,bd,N⟩ i none with state:=.busy })).heap[i.D]? = some (.deferred (some [])):=(World.putObj_heap_other hne).trans (k2.trans hD)
 obtain⟨u4,k4⟩:=zaT x2 u2 (Array.getElem?_eq_some_iff.1 hD1).1
 have hlt3:i.b<w3.heap.size:=Nat.lt_of_lt_of_le hlt2 x2.size
 have hbusy:w3.heap[i.b]? = some (.loop { zbK ⟨fr,ps,as,bd,N⟩ i none with state:=.busy }):=k3.trans (World.putObj_heap_same hlt1)
 have ext:∀ X,Ext ρ h (w.putObj i.b (.deferred none)) ρ2 h2 ((w3.putObj i.b X).putObj i.b (.deferred none)):=fun X=>by
  rw[zhp]
  refine(zhP x1 hlt).trans ?_
  have:=zhP (X:=.deferred none) x2 hlt2
  rw[zhp]at this
  exact this
 have fin:∀ (jump:Option Code) (pd:Pd),zbK ⟨fr,ps,as,bd,N⟩ i pd=zoU ⟨fr,ps,as,bd,N⟩ i (if jump.isNone then .ready else .done) jump ->
   ∃ v w',(Instr.endRound i.b jump).run P w3=.ok v w'/\v=.bool jump.isNone/\∃ ρ',Sat E ρ' h2 w'/\(jF E ⟨fr,ps,as,bd,N⟩ i).J pd ds ρ' h2 w'/\Ext ρ h ((jF E ⟨fr,ps,as,bd,N⟩ i).m w) ρ' h2 ((jF E ⟨fr,ps,as,bd,N⟩ i).m w'):=by
  intro jump pd hpd
  refine⟨_,_,run_endRound jump hbusy,rfl,ρ2,zgz s2 u3,⟨hds,?_,?_,hne,u3,u4,(hf.mono x1.len x1.agree).mono x2.len x2.agree,hN⟩,ext _⟩
  ·rw[World.putObj_heap_same hlt3,hpd];rfl
  ·rw[World.putObj_heap_other hne];exact k4.trans hD1
 cases ae with
 | normal=>obtain⟨v,w',e1,e2,e3⟩:=fin none none rfl;exact⟨v,w',e1,by rw[e2];rfl,e3⟩
 | ret=>obtain⟨v,w',e1,e2,e3⟩:=fin (some .ret) (some .ret) rfl;exact⟨v,w',e1,by rw[e2];rfl,e3⟩
 | exit j=>obtain⟨v,w',e1,e2,e3⟩:=fin (some (.exit j)) (some (.exit j)) rfl;exact⟨v,w',e1,by rw[e2];rfl,e3⟩
def zpN (E:Env) (P:Program) (itr:Nat->Option zlg):Prop:=∀ G it,itr G=some it->j6 P G/\∀ (s:LS) hand l h fa k,zh8 E P (jF E s) (fun i=>i.b) hand->it hand l h fa k=0->FaOk E fa ->
 ∃ h' fa' pd',k h' fa' pd'=0/\FaOk E fa'/\∀ (i:LI) ρ w,bdL h.n.toNat l->Sat E ρ h w->(jF E s i).J none [] ρ h w->Calls P G (#[zbv i.b] ++ (γL E ρ l).toArray) w fun e w'=>
  (∃ v,e=.returned v)/\∃ ρ',Sat E ρ' h' w'/\(jF E s i).J pd' [] ρ' h' w'/\Ext ρ h ((jF E s i).m w) ρ' h' ((jF E s i).m w')
theorem zqf {e:AE} {r:Option Nat} {n:Nat} {Q:Exit->Act->World->Prop} {a:Act} {w:World} (h:Q (AE.exit' e) a w):(pdCode e).wpIn (Fd r) n P Q a w:=by
 cases e with
 | normal=>exact wpIn_skip h
 | ret=>exact wpIn_ret h
 | exit i=>exact wpIn_exit h
theorem rng_run {Y:Ty} (hY:TyOk P Y) {sc:Bool} {c:YX} (hcall:zk E P c.call) (hitr:zpN E P c.itr):∀ g ps x y fr h fa ys pd k,FaOk E fa->zab (yT Y N (.rangeFunc g ps x y) sc) c fr h fa ys pd k=0 ->
  zpK E P N zk8 (fun _=>0) true (.rangeFunc g ps x y) fr h ys pd k:=by
 intro g ps x y fr h fa ys pd k hfa hk
 simp only[yT]at hk
 split at hk
 rotate_left
 ·exact(ziO hk).elim
 rename_i g' hg'
 split at hk
 rotate_left
 ·exact(ziO hk).elim
 rename_i hall
 have hps:∀ p∈ps.toList,p<N:=by
  have:∀ l:List Nat,zW (fun p=>Nat.blt p N) l=true->∀ p∈l,p<N:=by
   intro l
   induction l with
   | nil=>intro _ p hp;cases hp
   | cons a r ih=>
    intro hl p hp
    obtain⟨h1,h2⟩:Nat.blt a N=true/\zW (fun p=>Nat.blt p N) r=true:=by
     have hl:bc (Nat.blt a N) (zW (fun p=>Nat.blt p N) r) false=true:=hl
     rw[bc_eqB]at hl
     simpa using hl
    rcases List.mem_cons.1 hp with e | e
    ·subst e;simpa using h1
    ·exact ih h2 p e
  exact this _ hall
 obtain⟨hp,hk2⟩:=zev (show bc (zfF pd) 1 (vFn (od g' fr) _ 1)=0 from hk) (by simp)
 clear hk
 have hp:=zcW hp
 subst hp
 have hk:=hk2
 clear hk2
 generalize hod:od g' fr=q at hk
 unfold vFn at hk
 split at hk
 rotate_left
 ·cases hk
 rename_i G pre caps
 obtain⟨hpre,hk⟩:=zK hk (by simp)
 have hpre:=nilL_ok hpre
 subst hpre
 obtain⟨it,hit,hk⟩:=z9 hk (by simp)
 obtain⟨hca,hit⟩:=hitr G it hit
 obtain⟨h',fa',pd',hk,hfa',zr⟩:=hit ⟨fr,ps,x,y,N⟩ _ caps h fa _ (zsi hY hcall hps) hk hfa
 have hk:k (match pd' with | none=>.normal | some e=>e) fr h' fa' ys (some .normal)=0:=by cases pd' <;> exact hk
 refine⟨_,_,_,_,_,_,hk,hfa',fun B r n ρ w a QQ hr hs hf hN hy hJ hQ=>?_⟩
 have hr:=hr rfl
 subst hr
 rcases hJ with ⟨hB,_,hds⟩ | ⟨h1,_⟩
 rotate_left
 ·cases h1
 obtain⟨hge,hgb⟩:=zq hf hg' hod
 have hge:a.eval g=.func (.func G) #[] (γL E ρ caps).toArray:=by rw[hge];simp[V.γ,γL]
 refine wpIn_rangeFunc (F:=Fd none) fun fn _=>?_
 obtain⟨i,hi⟩:∃ i:LI,i=⟨w.heap.size+1,w.heap.size,a.tmps,fn⟩:=⟨_,rfl⟩
 obtain⟨W1,hW1⟩:∃ W1,(w.alloc (.deferred (some []))).alloc (.loop (zbK ⟨fr,ps,x,y,N⟩ i none))=W1:=⟨_,rfl⟩
 have hsz:W1.heap.size=w.heap.size+2:=by rw[<- hW1];simp
 have hold:∀ b,b<w.heap.size->W1.heap[b]? = w.heap[b]?:=fun b hb=>by
  rw[<- hW1]
  show ((w.heap.push _).push _)[b]? = _
  rw[Array.getElem?_push,if_neg (by simp;omega),Array.getElem?_push,if_neg (by omega)]
 have hL1:W1.heap[w.heap.size+1]? = some (.loop (zbK ⟨fr,ps,x,y,N⟩ i none)):=by
  rw[<- hW1];have:=World.alloc_heap_new (w.alloc (.deferred (some []))) (.loop (zbK ⟨fr,ps,x,y,N⟩ i none));rwa [World.size_alloc]at this
 have hK1:W1.heap[w.heap.size]? = some (.deferred (some [])):=by
  rw[<- hW1]
  show ((w.heap.push _).push _)[w.heap.size]? = _
  rw[Array.getElem?_push,if_neg (by simp)]
  simp
 have hs1:Sat E ρ h W1:=by rw[<- hW1];exact ziZ (ziZ hs _) _
 have hj1:(jF E ⟨fr,ps,x,y,N⟩ i).J none [] ρ h W1:=by
  subst hi
  exact⟨rfl,hL1,hK1,by simp,zoK hs (by simp),zoK hs (by simp),hf,hN⟩
 refine⟨w.heap.size+1,[zn0 w.heap.size],W1,{ target:=.fn (.func G) (γL E ρ caps).toArray,args:=#[.func (.yield (w.heap.size+1)) #[] #[]] },W1,G,
  #[.func (.yield (w.heap.size+1)) #[] #[]] ++ (γL E ρ caps).toArray,W1,?_,?_,fun _ _=>trivial,?_,fun h=>by simp[Fd,Fence.wide]at h,?_⟩
 ·rw[<- hW1,hi];exact run_enterLoop_outer _ _ _ _ _
 ·simp only[resolve,hge]
  simp[go_sem]
 ·have:=hca (#[.func (.yield (w.heap.size+1)) #[] #[]] ++ (γL E ρ caps).toArray) W1
  simpa [invoke,go_sem] using this
 ·have hc:=zr i ρ W1 hgb.2 hs1 hj1
  rw[hi]at hc
  refine(zm5 hc).mono ?_
  rintro e w3 ⟨⟨v,rfl⟩,ρ',s3,⟨_,hrec3,hD3,hne3,u3,u4,_,_⟩,x3⟩
  have hlt3:w.heap.size+1<w3.heap.size:=(Array.getElem?_eq_some_iff.1 hrec3).1
  have hend:=run_endLoop (P:=P) hrec3 (by cases pd' <;> simp[zbK,zoU])
  have hat:AtY E N (zk8 B) (zbv 0) ρ h w fr h' ys (some .normal) { a with defers:=[zn0 w.heap.size] ++ a.defers } (w3.putObj (w.heap.size+1) (.loop { zbK ⟨fr,ps,x,y,N⟩ ⟨w.heap.size+1,w.heap.size,a.tmps,fn⟩ pd' with state:=.exhausted })):=by
   refine⟨ρ',hf.mono x3.len x3.agree,hN,hy,zgz s3 u3,.inr ⟨rfl,w.heap.size,hB,by rw[hds];rfl,?_,u4⟩,?_⟩
   ·rw[World.putObj_heap_other hne3];exact hD3
   ·have x3:Ext ρ h (W1.putObj (w.heap.size+1) (.deferred none)) ρ' h' (w3.putObj (w.heap.size+1) (.deferred none)):=x3
    refine⟨x3.len,x3.lo,x3.agree,fun p o h1 h2 h3=>?_,?_,?_,?_,?_,fun b hb hno=>?_,x3.old,x3.liv⟩
    ·rcases x3.new p o h1 h2 h3 with h4 | h4
     ·rw[World.putObj_size,hsz]at h4
      exact .inl (by show w.heap.size<=_;omega)
     ·exact .inr h4
    ·exact x3.os.trans (by rw[<- hW1];rfl)
    ·exact x3.tape.trans (by rw[<- hW1];rfl)
    ·exact x3.output.trans (by rw[<- hW1];rfl)
    ·show w.heap.size<=(w3.putObj _ _).heap.size
     rw[World.putObj_size];omega
    ·have hb:b<w.heap.size:=hb
     have:=x3.keep b (by rw[World.putObj_size,hsz];omega) hno
     rw[World.putObj_heap_other (by omega),World.putObj_heap_other (by omega),hold b hb]at this
     show (w3.putObj _ _).heap[b]? = w.heap[b]?
     rw[World.putObj_heap_other (by omega)]
     exact this
  refine⟨_,_,hend,?_⟩
  cases pd' with
  | none=>exact hQ _ _ hat
  | some e=>exact zqf (r:=none) (hQ _ _ hat)
end Go.Ev
end
set_option linter.unusedSimpArgs false
set_option linter.unusedVariables false
noncomputable section
namespace Go.Ev
open Go
variable {E:Env} {P:Program} {N:Nat}
theorem itr_ok {Y:Ty} (hY:TyOk P Y) {call:z3} (hcall:zk E P call) {fuel G:Nat} {f:Func} {c:Code} (hfn:P.funcs[G]? = some f) (hb:f.body=some c) (hres:f.results.toList=[])
  (s:LS) (hand:Hand) (l:List V) (h:H) (fa:Fa) (k:H->Fa->Pd->Nat) (hh:zh8 E P (jF E s) (fun i=>i.b) hand) (hk:itrT (yT Y f.ntmps c true) call G fuel hand l h fa k=0) (hfa:FaOk E fa) :
  ∃ h' fa' pd',k h' fa' pd'=0/\FaOk E fa'/\∀ (i:LI) ρ w,bdL h.n.toNat l->Sat E ρ h w->(jF E s i).J none [] ρ h w->Calls P G (#[zbv i.b] ++ (γL E ρ l).toArray) w fun e w'=>
  (∃ v,e=.returned v)/\∃ ρ',Sat E ρ' h' w'/\(jF E s i).J pd' [] ρ' h' w'/\Ext ρ h ((jF E s i).m w) ρ' h' ((jF E s i).m w'):=by
 obtain⟨fr,hk,hfr⟩:=zfH l 1 .e _ hk
 obtain⟨ae,fr1,h1,fa1,ys1,pd1,hk1,hfa1,r1⟩:=jZ (P:=P) (M:=jF E s) (lb:=fun i=>i.b) (rg:=true) hY (c:=⟨call,G,fuel,hand,zhw⟩) hcall (fun i=>zqG s i) hh (sc:=true) (fun _=>rfl) (zfz rfl) c fr h fa [zy 0] none _ hfa hk
 have fin:(AE.exit' ae=.normal\/AE.exit' ae=.ret)->k h1 fa1 pd1=0->∃ h' fa' pd',k h' fa' pd'=0/\FaOk E fa'/\∀ (i:LI) ρ w,bdL h.n.toNat l->Sat E ρ h w->(jF E s i).J none [] ρ h w->Calls P G (#[zbv i.b] ++ (γL E ρ l).toArray) w fun e w'=>
  (∃ v,e=.returned v)/\∃ ρ',Sat E ρ' h' w'/\(jF E s i).J pd' [] ρ' h' w'/\Ext ρ h ((jF E s i).m w) ρ' h' ((jF E s i).m w'):=by
  intro hae hk
  refine⟨h1,fa1,pd1,hk,hfa1,fun i ρ w hbd hs hJ=>calls_of_wp hfn hb ?_⟩
  have htm:∀ t,(#[zbv i.b] ++ (γL E ρ l).toArray ++ Array.replicate (f.ntmps - (#[zbv i.b] ++ (γL E ρ l).toArray).size) undef)[1+t]? = if t<l.length then (γL E ρ l)[t]? else (#[zbv i.b] ++ (γL E ρ l).toArray ++ Array.replicate (f.ntmps - (#[zbv i.b] ++ (γL E ρ l).toArray).size) undef)[1+t]?:=by
   intro t
   by_cases ht:t<l.length
   ·rw[if_pos ht,Array.getElem?_append_left (by simp[γL_length];omega),Array.getElem?_append_right (by simp)]
    simp
   ·rw[if_neg ht]
  refine(wpIn_wide (n:=0)).1 (r1 i none 0 ρ w ⟨_,[]⟩ _ (fun _=>rfl) hs ?_ ?_ ?_ hJ ?_)
  ·intro t v hv
   rcases hfr _ v hv with h3 | ⟨j,h3,h4⟩
   ·rw[Fr.get_e]at h3;simp at h3
   ·have:=ze2 h3
    subst this
    have hj:j<l.length:=(List.getElem?_eq_some_iff.1 h4).1
    refine⟨?_,(js _ l).1 hbd v (List.mem_of_getElem? h4)⟩
    show _=_
    rw[htm j,if_pos hj,γL_get,h4]
    rfl
  ·simp[γL_length];omega
  ·intro t ht
   rcases List.mem_cons.1 ht with e | e
   ·have:=ze2 e
    subst this
    rw[Array.getElem?_append_left (by simp),Array.getElem?_append_left (by simp)]
    simp
   ·cases e
  ·rintro a' w' ⟨ρ',f1,n1,y1,s1,j1,x1⟩
   have hd:a'.defers=[]:=j1.1
   rw[hd]at j1
   have hr:∃ v,(results f a'.tmps).run P w'=.ok v w':=by
    have e0:results f a'.tmps=(do
     let vs <- f.results.mapM (resS a'.tmps)
     pure (if h:vs.size=1 then vs[0] else .tuple vs)):=rfl
    rw[e0,Sem.run_bind,Array.mapM_eq_mapM_toList,Sem.run_map,hres]
    exact⟨_,rfl⟩
   obtain⟨v,hv⟩:=hr
   have:bodyPost P f (fun e w'=>(∃ v,e=.returned v)/\∃ ρ',Sat E ρ' h1 w'/\(jF E s i).J pd1 [] ρ' h1 w'/\Ext ρ h ((jF E s i).m w) ρ' h1 ((jF E s i).m w')) .ret a' w':=⟨hd,v,hv,⟨v,rfl⟩,ρ',s1,j1,x1⟩
   rcases hae with h | h <;> rw[h] <;> exact this
 cases ae with
 | normal=>exact fin (.inl rfl) hk1
 | ret=>exact fin (.inr rfl) hk1
 | exit i=>exact absurd (show (1:Nat)=0 from hk1) (by simp)
theorem rfn_ok {Y:Ty} (hY:TyOk P Y) {call:z3} (hcall:zk E P call) {itr:Nat->Option zlg} (hitr:zpN E P itr) {fuel F:Nat} {f:Func} {c:Code} {rs:List IR} (hfn:P.funcs[F]? = some f) (hca:j6 P F) (hb:f.body=some c)
  (hrs:zgk Y f.results.toList=some rs):zk E P (fun G l h fa k=>bc (Nat.beq G F) (rfnT (yT Y f.ntmps c true) rs call F fuel itr l h fa k) 1):=by
 intro G l h fa k hk hfa
 obtain⟨hG,hk⟩:=zK (show bc (Nat.beq G F) _ 1=0 from hk) (by simp)
 have hG:G=F:=by simpa using hG
 subst hG
 refine⟨hca,?_⟩
 obtain⟨fr,hk,hfr⟩:=zfG hk
 obtain⟨ae,fr1,h1,fa1,ys1,pd1,hk1,hfa1,r1⟩:=jZ (P:=P) (M:=zk8) (lb:=fun _=>0) (rg:=true) hY (c:=⟨call,G,fuel,zel,itr⟩) hcall zq2 zfA (sc:=true) (fun _=>rfl) (rng_run hY hcall hitr) c fr h fa [] none _ hfa hk
 have fin:(AE.exit' ae=.normal\/AE.exit' ae=.ret)->zkm rs fr1 h1 (fun v=>k v h1 fa1) 1=0->∃ v h' fa',k v h' fa'=0/\FaOk E fa' /\
   ∀ ρ w,bdL h.n.toNat l->Sat E ρ h w->Calls P G (γL E ρ l).toArray w fun e w'=>∃ ρ',e=.returned (v.γ E ρ')/\Sat E ρ' h' w'/\Ext ρ h w ρ' h' w'/\v.bd h'.n.toNat:=by
  intro hae hr
  obtain⟨vs,hvs,hr⟩:=z9 (show oc (zhk fr1 h1 rs) _ _=0 from hr) (by simp)
  have hv:∃ v,k v h1 fa1=0/\(∀ n,bdL n vs->v.bd n)/\∀ ρ,(if h:(γL E ρ vs).toArray.size=1 then (γL E ρ vs).toArray[0] else .tuple (γL E ρ vs).toArray)=v.γ E ρ:=by
   match vs,hr with
   | [],hr=>exact⟨.tup [],hr,fun n hn=>hn,fun ρ=>rfl⟩
   | [x],hr=>exact⟨x,hr,fun n hn=>hn.1,fun ρ=>by simp[γL]⟩
   | x::y::r,hr=>exact⟨.tup (x::y::r),hr,fun n hn=>hn,fun ρ=>by simp[γL,V.γ]⟩
  obtain⟨v,hkv,hvb,hvγ⟩:=hv
  refine⟨v,h1,fa1,hkv,hfa1,fun ρ w hbd hs=>?_⟩
  refine(callsIn_wide (n:=0)).1 (callsIn_of_wp_marks (F:=Fence.wide) hfn hb trivial ?_ rfl)
  have hf:yr E ρ h.n.toNat fr ((γL E ρ l).toArray ++ Array.replicate (f.ntmps - (γL E ρ l).toArray.size) undef):=by
   intro t v hv
   have h2:=hfr t v hv
   have ht:t<l.length:=(List.getElem?_eq_some_iff.1 h2).1
   refine⟨?_,(js _ l).1 hbd v (List.mem_of_getElem? h2)⟩
   rw[Array.getElem?_append_left (by simp[γL_length];exact ht)]
   simp[γL_get,h2]
  refine r1 w.heap.size none 0 ρ w ⟨_,[]⟩ _ (by simp) hs hf (by simp[γL_length];omega) (fun t ht=>by cases ht) (.inl ⟨Nat.le_refl _,rfl,rfl⟩) ?_
  rintro a1 w1 ⟨ρ1,f1,n1,y1,s1,j1,x1⟩
  have x1:Ext ρ h w ρ1 h1 w1:=x1
  have this:bodyPostM Fence.wide 0 P f (fun e w'=>∃ ρ',e=.returned (v.γ E ρ')/\Sat E ρ' h1 w'/\Ext ρ h w ρ' h1 w'/\v.bd h1.n.toNat) .ret a1 w1:=by
   show LeavesInM Fence.wide 0 P f a1.tmps _ a1.defers .returning w1
   rcases j1 with ⟨_,_,hd⟩ | ⟨_,b,hB,hd,hD,hu⟩
   ·rw[hd]
    obtain⟨e1,b1⟩:=zci hY hrs s1 f1 hvs
    rw[hvγ]at e1
    exact⟨_,e1,ρ1,rfl,s1,x1,hvb _ b1⟩
   ·rw[hd]
    have s2:Sat E ρ1 h1 (w1.putObj b (.deferred none)):=zgz s1 hu
    obtain⟨e1,b1⟩:=zci hY hrs s2 f1 hvs
    rw[hvγ]at e1
    refine⟨by simp,.inl ⟨b,_,rfl,run_takeDeferred hD,⟨_,e1,ρ1,rfl,s2,?_,hvb _ b1⟩⟩⟩
    refine⟨x1.len,x1.lo,x1.agree,x1.new,x1.os,x1.tape,x1.output,by rw[World.putObj_size];exact x1.size,fun c hc hno=>?_,x1.old,x1.liv⟩
    rw[World.putObj_heap_other (by omega)]
    exact x1.keep c hc hno
  rcases hae with h | h <;> rw[h] <;> exact this
 cases ae with
 | normal=>exact fin (.inl rfl) hk1
 | ret=>exact fin (.inr rfl) hk1
 | exit i=>exact absurd (show (1:Nat)=0 from hk1) (by simp)
end Go.Ev
end
set_option linter.unusedSimpArgs false
set_option linter.unusedVariables false
noncomputable section
namespace Go.Ev
open Go
theorem zt {α:Type} {p:α->Bool}:∀ {l:List α},zW p l=true->∀ x∈l,p x=true
 | [],_,x,hx=>by cases hx
 | a::r,h,x,hx=>by
  obtain⟨h1,h2⟩:p a=true/\zW p r=true:=by
   have h:bc (p a) (zW p r) false=true:=h
   cases hp:p a <;> rw[hp]at h
   ·cases h
   ·exact⟨rfl,h⟩
  rcases List.mem_cons.1 hx with rfl | hx
  ·exact h1
  ·exact zt h2 x hx
def zb1 (a:Nat):Nat->List Nat
 | 0=>[]
 | n+1=>a::zb1 (a+1) n
def rng (n:Nat):List Nat:=zb1 0 n
theorem jO:∀ {n a j:Nat},a<=j->j<a+n->j∈zb1 a n
 | 0,a,j,h1,h2=>by omega
 | n+1,a,j,h1,h2=>by
  by_cases h:j=a
  ·subst h;exact List.mem_cons_self ..
  ·exact List.mem_cons_of_mem _ (jO (by omega) (by omega))
theorem rngF_ok {p:Nat->Bool} {a n:Nat} (h:zW p (zb1 a n)=true):∀ j,a<=j->j<a+n->p j=true:=fun j h1 h2=>zt h j (jO h1 h2)
theorem rng_ok {p:Nat->Bool} {n:Nat} (h:zW p (rng n)=true):∀ j,j<n->p j=true:=fun j hj=>rngF_ok h j (Nat.zero_le _) (by omega)
end Go.Ev
end
set_option linter.unusedSimpArgs false
set_option linter.unusedVariables false
noncomputable section
namespace Go.Ev
open Go
theorem zpI (x y:Nat) (hx:x<18446744073709551616) (hy:y<18446744073709551616):arS .and .u64 (x:Int) (y:Int)=((Nat.land x y:Nat):Int):=by
 have h1:Nat.blt x (ji .u64)=true:=by simp[ji];omega
 have h2:Nat.blt y (ji .u64)=true:=by simp[ji];omega
 show zfT .u64 Nat.land (fun a b=>a &&& b) (.ofNat x) (.ofNat y)=_
 show bc (Nat.blt x (ji .u64)) (bc (Nat.blt y (ji .u64)) (Int.ofNat (Nat.land x y)) _) _=_
 rw[h1,h2];rfl
theorem zh4 (x y:Nat) (hx:x<18446744073709551616) (hy:y<18446744073709551616):arS .or .u64 (x:Int) (y:Int)=((Nat.lor x y:Nat):Int):=by
 have h1:Nat.blt x (ji .u64)=true:=by simp[ji];omega
 have h2:Nat.blt y (ji .u64)=true:=by simp[ji];omega
 show zfT .u64 Nat.lor (fun a b=>a ||| b) (.ofNat x) (.ofNat y)=_
 show bc (Nat.blt x (ji .u64)) (bc (Nat.blt y (ji .u64)) (Int.ofNat (Nat.lor x y)) _) _=_
 rw[h1,h2];rfl
theorem zu5 {x m:Int} (k:Nat) (hm:m=2 ^ k - 1) (hk:k<64) (h0:0<=x) (h1:x<18446744073709551616):arS .and .u64 x m=x % 2 ^ k:=by
 obtain⟨n,rfl⟩:=Int.eq_ofNat_of_zero_le h0
 have hp:0<2 ^ k:=Nat.two_pow_pos k
 have hlt:(2:Nat) ^ k<18446744073709551616:=by
  have:(2:Nat) ^ k<2 ^ 64:=Nat.pow_lt_pow_right (by omega) hk
  simpa using this
 have e:m=((2 ^ k - 1:Nat):Int):=by
  rw[hm,Int.natCast_sub (by omega)];simp
 rw[e,zpI n _ (by omega) (by omega)]
 have:Nat.land n (2 ^ k - 1)=n % 2 ^ k:=Nat.and_two_pow_sub_one_eq_mod n k
 rw[this]
 simp
theorem zj6 {x:Int} (n:Nat) (hn:n<=64) (h0:0<=x):arS .shr .u64 x (n:Int)=x / 2 ^ n:=by
 show (shI .shr .u64 x n).getD 0=_
 have:min ((n:Int)).toNat (IntKind.bits .u64)=n:=by
  show min n 64=n
  omega
 simp only[shI,this,Option.getD_some]
 rw[Int.fdiv_eq_ediv_of_nonneg _ (by have:(0:Int)<2 ^ n:=Int.pow_pos (by omega);omega)]
theorem zeJ {x:Int} (n:Nat) (hn:n<=64) (h0:0<=x) (h1:x*2 ^ n<18446744073709551616):arS .shl .u64 x (n:Int)=x*2 ^ n:=by
 show (shI .shl .u64 x n).getD 0=_
 have:min ((n:Int)).toNat (IntKind.bits .u64)=n:=by
  show min n 64=n
  omega
 simp only[shI,this,Option.getD_some,z8]
 have:0<=x*2 ^ n:=Int.mul_nonneg h0 (by have:(0:Int)<2 ^ n:=Int.pow_pos (by omega);omega)
 rw[IntKind.wrap_u64]
 exact Int.emod_eq_of_lt this h1
theorem or_add {x y:Int} (k:Nat) (m:Int) (hx:x=m*2 ^ k) (hm:0<=m) (h0:0<=y) (h1:y<2 ^ k) (hb:x<18446744073709551616) (hk:k<=64):arS .or .u64 x y=x+y:=by
 obtain⟨a,rfl⟩:=Int.eq_ofNat_of_zero_le hm
 obtain⟨b,rfl⟩:=Int.eq_ofNat_of_zero_le h0
 have hxn:x=((a*2 ^ k:Nat):Int):=by rw[hx];simp
 have hbk:b<2 ^ k:=by
  have:((2 ^ k:Nat):Int)=2 ^ k:=by simp
  omega
 have hle:(2:Nat) ^ k<=18446744073709551616:=by
  have:(2:Nat) ^ k<=2 ^ 64:=Nat.pow_le_pow_right (by omega) hk
  simpa using this
 rw[hxn,zh4 _ _ (by omega) (by omega)]
 have:Nat.lor (a*2 ^ k) b=a*2 ^ k+b:=by
  have:=Nat.shiftLeft_add_eq_or_of_lt hbk a
  rw[Nat.shiftLeft_eq]at this
  exact this.symm
 rw[this]
 simp
end Go.Ev
end
set_option linter.unusedSimpArgs false
set_option linter.unusedVariables false
noncomputable section
namespace Go.Ev
open Go Go.RowKit
variable {E:Env} {P:Program}
theorem satNil {E:Env} (ρ:Rho) (w:World):Sat E ρ ⟨.h,.h,.e⟩ w:=
 ⟨fun p o hp=>absurd (show (none:Option O)=some o from (PT.get_e p).symm.trans hp) (by simp),fun p q o o' hp=>absurd (show (none:Option O)=some o from (PT.get_e p).symm.trans hp) (by simp),
  fun p o hp=>absurd (show (none:Option O)=some o from (PT.get_e p).symm.trans hp) (by simp)⟩
theorem ztZ {ρ ρ':Rho} {h':H} {w w':World} (x:Ext ρ ⟨.h,.h,.e⟩ w ρ' h' w'):Below w.heap.size w w':=
 ⟨x.os,x.tape,x.output,x.size,fun b hb=>x.keep b hb fun p o hp=>absurd (show (none:Option O)=some o from (PT.get_e p).symm.trans hp) (by simp)⟩
def endV (v:V):K:=fun u _ _=>bc (V.beq u v) 0 1
theorem zcL {Y:Ty} {C:Cx} (hx:CxOk E P Y C) {F:Nat} {l:List V} {fa:Fa} {inner:z3} (hi:zk E P inner) (hfa:FaOk E fa) {v:V} (hr:zdG C 0 inner F l ⟨.h,.h,.e⟩ fa (endV v)=0) (hl:bdL 1 l) (ρ:Rho) (W:World) :
  Calls P F (γL E ρ l).toArray W fun e w'=>(∃ ρ',e=.returned (v.γ E ρ'))/\Below W.heap.size W w':=by
 obtain⟨_,u,h',fa',hk,_,hc⟩:=zfP hx 0 hi _ _ _ _ _ hr hfa
 obtain⟨hv,_⟩:=zK (show bc (V.beq u v) 0 1=0 from hk) (by simp)
 have hv:=V.beq_ok hv
 subst hv
 refine(hc ρ W hl (satNil _ W)).mono ?_
 rintro e w' ⟨ρ',rfl,_,x,_⟩
 exact⟨⟨ρ',rfl⟩,ztZ x⟩
end Go.Ev
end
set_option linter.unusedSimpArgs false
set_option linter.unusedVariables false
noncomputable section
namespace Go.Ev
open Go
variable {E:Env} {P:Program}
end Go.Ev
end
set_option linter.unusedSimpArgs false
set_option linter.unusedVariables false
noncomputable section
namespace Go.Ev
open Go Go.RowKit
inductive ZC where
 | hole | seqL (z:ZC) (b:Code) | seqR (a:Code) (z:ZC) | block (i:Nat) (z:ZC)
def ZC.plug (x:Code):ZC->Code
 | .hole=>x
 | .seqL z b=>.seq (z.plug x) b
 | .seqR a z=>.seq a (z.plug x)
 | .block i z=>.block i (z.plug x)
def ZC.drB (dr:Nat->Option Dr):ZC->Bool
 | .hole=>true
 | .seqL z b=>z.drB dr && zam dr b
 | .seqR a z=>zam dr a && z.drB dr
 | .block _ z=>z.drB dr
inductive ZI where
 | hole | seqL (z:ZI) (b:IC) | seqR (a:IC) (z:ZI) | block (i:Nat) (z:ZI)
def zGo (Y:Ty) (N:Nat) (dr:Nat->Option Dr):ZC->ZI
 | .hole=>.hole
 | .seqL z b=>.seqL (zGo Y N dr z) (zax Y N dr b)
 | .seqR a z=>.seqR (zax Y N dr a) (zGo Y N dr z)
 | .block i z=>.block i (zGo Y N dr z)
def kSeq (b:IC) (g:Ctx) (ko:K2):K2:=fun e fr h fa=>zbU e (zce b g fr h fa ko) (ko .ret fr h fa) (fun i=>ko (.exit i) fr h fa)
def kBlk (i:Nat) (ko:K2):K2:=fun e fr h fa=>zbU e (ko .normal fr h fa) (ko .ret fr h fa) (fun j=>bc (Nat.beq j i) (ko .normal fr h fa) (ko (.exit j) fr h fa))
def zIn:ZI->Ctx->Fr->H->Fa->K1->K2->Nat
 | .hole,_,fr,h,fa,k,_=>k fr h fa
 | .seqL z b,g,fr,h,fa,k,ko=>zIn z g fr h fa k (kSeq b g ko)
 | .seqR a z,g,fr,h,fa,k,ko=>zce a g fr h fa (fun e fr h fa=>zbU e (zIn z g fr h fa k ko) (ko .ret fr h fa) (fun i=>ko (.exit i) fr h fa))
 | .block i z,g,fr,h,fa,k,ko=>zIn z g fr h fa k (kBlk i ko)
def zOut:ZI->Ctx->K2->K2
 | .hole,_,ko=>ko
 | .seqL z b,g,ko=>zOut z g (kSeq b g ko)
 | .seqR _ z,g,ko=>zOut z g ko
 | .block i z,g,ko=>zOut z g (kBlk i ko)
abbrev Sg:=Nat->Option SE
def sbE (σ:Sg):SE->Option SE
 | .v i=>σ i
 | .lit n=>some (.lit n)
 | .op o k a b=>match sbE σ a,sbE σ b with
  | some a,some b=>some (.op o k a b)
  | _,_=>none
 | .cv k a=>match sbE σ a with
  | some a=>some (.cv k a)
  | none=>none
 | .mm x a b=>match sbE σ a,sbE σ b with
  | some a,some b=>some (.mm x a b)
  | _,_=>none
def sbB (σ:Sg):SB->Option SB
 | .v i=>some (.v i)
 | .cmp o a b=>match sbE σ a,sbE σ b with
  | some a,some b=>some (.cmp o a b)
  | _,_=>none
 | .not a=>match sbB σ a with
  | some a=>some (.not a)
  | none=>none
 | .and a b=>match sbB σ a,sbB σ b with
  | some a,some b=>some (.and a b)
  | _,_=>none
def mE (σ:Sg) (e u:SE):Bool:=match sbE σ e with
 | some s=>SE.beq s u
 | none=>false
mutual
def mV (σ:Sg):V->V->Bool
 | .b x,.b y=>zla x y
 | .i k n,.i k' n'=>kEq k k' && iEq n n'
 | .sb c,.sb c'=>match sbB σ c with
  | some s=>SB.beq s c'
  | none=>false
 | .si k e,.si k' e'=>kEq k k' && mE σ e e'
 | .si k e,.i k' n=>kEq k k' && mE σ e (.lit n)
 | .ptr a o,.ptr b o'=>pEq a b && Nat.beq o o'
 | .nil,.nil=>true
 | .sl a o n c,.sl a' o' n' c'=>pEq a a' && Nat.beq o o' && Nat.beq n n' && Nat.beq c c'
 | .vec a n,.vec a' n'=>pEq a a' && Nat.beq n n'
 | .vt a o n,.vt a' o' n'=>pEq a a' && Nat.beq o o' && Nat.beq n n'
 | .snil,.snil=>true
 | .fn F p c,.fn F' p' c'=>Nat.beq F F' && mL σ p p' && mL σ c c'
 | .fnil,.fnil=>true
 | .agg l,.agg l'=>mL σ l l'
 | .tup l,.tup l'=>mL σ l l'
 | .fs a q,.fs a' q'=>pEq a a' && Nat.beq q q' && Nat.blt q 50
 | .mp a,.mp b=>pEq a b
 | .mnil,.mnil=>true
 | _,_=>false
def mL (σ:Sg):List V->List V->Bool
 | [],[]=>true
 | x::r,y::s=>mV σ x y && mL σ r s
 | _,_=>false
end
def mTrN (σ:Sg) (z':V):Tr V->Bool
 | .nil=>true
 | .leaf a=>mV σ a z'
 | .node l r=>mTrN σ z' l && mTrN σ z' r
def mTr (σ:Sg) (z':V):Tr V->Tr V->Bool
 | t,.nil=>mTrN σ z' t
 | .leaf a,.leaf b=>mV σ a b
 | .node l r,.node l' r'=>mTr σ z' l l' && mTr σ z' r r'
 | _,_=>false
def mP (σ:Sg):List (V × V)->List (V × V)->Bool
 | [],[]=>true
 | (a,b)::r,(c,d)::s=>mV σ a c && mV σ b d && mP σ r s
 | _,_=>false
def trNilB (t:Tr V):Bool:=match t with
 | .nil=>true
 | _=>false
def renB (σ:Sg) (q q':Nat):Bool:=match σ (100000+q) with
 | some (.lit n)=>iEq n (.ofNat q')
 | _=>false
def mO (σ:Sg):O->O->Bool
 | .cells t l,.cells t' l'=>Nat.beq t t' && mL σ l l'
 | .arr t n d z tr,.arr t' n' d' z' tr'=>Nat.beq t t' && Nat.beq n n' && Nat.beq d d' && mV σ z z' && mTr σ z' tr tr'
 | .vec t e n l,.vec t' e' n' l'=>Nat.beq t t' && Nat.beq e e' && Nat.beq n n' && mL σ l l'
 | .varr t n d z tr,.varr t' n' d' z' tr'=>Nat.beq t t' && Nat.beq n n' && Nat.beq d d' && mV σ z z' && mTr σ z' tr tr'
 | .row q z N _ _,.row q' z' N' _ _=>Nat.beq q q' && Nat.beq z z' && mE σ N N' && Nat.blt q 50
 | .oa t q n d tr,.oa t' q' n' d' tr'=>Nat.beq t t' && Nat.beq n n' && Nat.beq d d' && trNilB tr && trNilB tr' && Nat.ble 50 q && renB σ q q'
 | .map l,.map l'=>mP σ l l'
 | .dead,.dead=>true
 | _,_=>false
def zgW (n:P):Tr V->Bool
 | .nil=>true
 | .leaf a=>a.bdB n
 | .node l r=>zgW n l && zgW n r
def oBdB (n:P):O->Bool
 | .cells _ l=>zcJ n l
 | .arr _ _ _ z tr=>z.bdB n && zgW n tr
 | .vec _ _ _ l=>zcJ n l
 | .varr _ _ _ z tr=>z.bdB n && zgW n tr
 | .row _ _ _ _ l=>zcJ n l
 | .oa _ _ _ _ tr=>zgW n tr
 | .map l=>zW (fun p:V × V=>p.1.bdB n && p.2.bdB n) l
 | .x _=>false
 | .dead=>true
def zht (q:P->O->Bool) (f:P->P):PT O->Bool
 | .e=>true
 | .n v l r=>(match v with
  | some o=>q (f .h) o
  | none=>true) && zht q (fun p=>f (.o p)) l && zht q (fun p=>f (.i p)) r
structure GS where
 fr:List (Ky × V)
 h:H
def frOf (l:List (Ky × V)) (k:Fr->Nat):Nat:=jE (fun fr k=>k fr) (fun p _ ih fr k=>pc p (fun q v=>zeM q fr v (fun fr=>ih fr k))) l Fr.e k
def zhz (S:GS) (σ:Sg) (fr:Fr) (h:H):Bool:=
 hc S.h (fun n lo t=>hc h (fun _ lo' t'=>pEq lo lo' &&
  zW (fun p:Ky × V=>p.2.bdB n && (match fr.get p.1 with
   | some u=>mV σ p.2 u
   | none=>false)) S.fr &&
  zht (fun p o=>pLt p n && oBdB n o && (match t'.get p with
   | some u=>mO σ o u
   | none=>false)) (fun p=>p) t))
def zhx (st:Nat->GS) (nx:List (Nat × Sg)) (fr:Fr) (h:H):Nat:=zaD 1 (fun _ _=>bc (zW (fun p:Nat × Sg=>zhz (st p.1) p.2 fr h) nx) 0 1) nx
def runJ (st:Nat->GS) (x:IC) (z:ZI) (ko:K2) (g:Ctx) (j:Nat) (fa:Fa) (nx:List (Nat × Sg)):Nat:=
 frOf (st j).fr (fun fr=>zce x g fr (st j).h fa (fun e fr h fa=>zbU e (zhx st nx fr h) (zOut z g ko .ret fr h fa) (fun i=>zOut z g ko (.exit i) fr h fa)))
variable {E E':Env} {P:Program} {N:Nat}
def zoS (a b:Row):Prop:=a.b=b.b/\a.off=b.off/\a.len=b.len/\a.cap=b.cap/\a.esz=b.esz/\a.t=b.t/\a.cs=b.cs/\a.fz=b.fz
structure TrE (σ:Sg) (E E':Env):Prop where
 i:∀ i s,σ i=some s->E'.i i=s.den E
 b:E'.b=E.b
 s:∀ q,q<50->zoS (E'.s q) (E.s q)
 r:∀ q q',50<=q->σ (100000+q)=some (.lit (.ofNat q'))->(E'.s q).cs=(E.s q').cs
theorem zdm {σ:Sg} (t:TrE σ E E'):∀ {e u:SE},sbE σ e=some u->u.den E=e.den E'
 | .v i,u,h=>(t.i i u h).symm
 | .lit n,u,h=>by simp[sbE]at h;subst h;rfl
 | .op o k a b,u,h=>by
  simp only[sbE]at h
  split at h
  ·rename_i x y hx hy
   simp at h;subst h
   simp only[SE.den,zdm t hx,zdm t hy]
  ·simp at h
 | .cv k a,u,h=>by
  simp only[sbE]at h
  split at h
  ·rename_i x hx
   simp at h;subst h
   simp only[SE.den,zdm t hx]
  ·simp at h
 | .mm x a b,u,h=>by
  simp only[sbE]at h
  split at h
  ·rename_i p q hp hq
   simp at h;subst h
   cases x <;> simp only[SE.den,zdm t hp,zdm t hq]
  ·simp at h
theorem zkh {σ:Sg} (t:TrE σ E E'):∀ {c u:SB},sbB σ c=some u->u.den E=c.den E'
 | .v i,u,h=>by simp[sbB]at h;subst h;simp only[SB.den,t.b]
 | .cmp o a b,u,h=>by
  simp only[sbB]at h
  split at h
  ·rename_i x y hx hy
   simp at h;subst h
   simp only[SB.den,zdm t hx,zdm t hy]
  ·simp at h
 | .not a,u,h=>by
  simp only[sbB]at h
  split at h
  ·rename_i x hx
   simp at h;subst h
   simp only[SB.den,zkh t hx]
  ·simp at h
 | .and a b,u,h=>by
  simp only[sbB]at h
  split at h
  ·rename_i x y hx hy
   simp at h;subst h
   simp only[SB.den,zkh t hx,zkh t hy]
  ·simp at h
theorem mE_ok {σ:Sg} (t:TrE σ E E') {e u:SE} (h:mE σ e u=true):u.den E=e.den E':=by
 unfold mE at h
 split at h
 ·rename_i s hs
  rw[<- SE.beq_eq h];exact zdm t hs
 ·cases h
mutual
theorem zds {σ:Sg} (t:TrE σ E E') (ρ:Rho):∀ {v u:V},mV σ v u=true->u.γ E ρ=v.γ E' ρ
 | .b x,u,h=>by cases u <;> simp only[mV]at h <;> first | (simp at h;done) | rw[zgJ h];rfl
 | .i k n,u,h=>by
  cases u <;> simp only[mV,Bool.and_eq_true]at h <;> first | (simp at h;done) | skip
  have h2:=h.2
  rw[yL]at h2
  rw[yG h.1,of_decide_eq_true h2];rfl
 | .sb c,u,h=>by
  cases u <;> simp only[mV]at h <;> first | (simp at h;done) | skip
  split at h
  ·rename_i s hs
   simp only[V.γ,<- zkh t hs,SB.beq_eq h]
  ·cases h
 | .si k e,u,h=>by
  cases u <;> simp only[mV,Bool.and_eq_true]at h <;> first | (simp at h;done) | skip
  ·have h2:=mE_ok t h.2
   simp only[V.γ,<- h2,yG h.1,SE.den]
  ·simp only[V.γ,mE_ok t h.2,yG h.1]
 | .ptr a o,u,h=>by
  cases u <;> simp only[mV,Bool.and_eq_true,Nat.beq_eq]at h <;> first | (simp at h;done) | skip
  rw[zar h.1,h.2];rfl
 | .nil,u,h=>by cases u <;> simp only[mV]at h <;> first | (simp at h;done) | rfl
 | .sl a o n c,u,h=>by
  cases u <;> simp only[mV,Bool.and_eq_true,Nat.beq_eq]at h <;> first | (simp at h;done) | skip
  rw[zar h.1.1.1,h.1.1.2,h.1.2,h.2];rfl
 | .vec a n,u,h=>by
  cases u <;> simp only[mV,Bool.and_eq_true,Nat.beq_eq]at h <;> first | (simp at h;done) | skip
  rw[zar h.1,h.2];rfl
 | .vt a o n,u,h=>by
  cases u <;> simp only[mV,Bool.and_eq_true,Nat.beq_eq]at h <;> first | (simp at h;done) | skip
  rw[zar h.1.1,h.1.2,h.2];rfl
 | .snil,u,h=>by cases u <;> simp only[mV]at h <;> first | (simp at h;done) | rfl
 | .fn F p c,u,h=>by
  cases u <;> simp only[mV,Bool.and_eq_true,Nat.beq_eq]at h <;> first | (simp at h;done) | skip
  simp only[V.γ,h.1.1,zhB t ρ h.1.2,zhB t ρ h.2]
 | .fnil,u,h=>by cases u <;> simp only[mV]at h <;> first | (simp at h;done) | rfl
 | .agg l,u,h=>by
  cases u <;> simp only[mV]at h <;> first | (simp at h;done) | skip
  simp only[V.γ,zhB t ρ h]
 | .tup l,u,h=>by
  cases u <;> simp only[mV]at h <;> first | (simp at h;done) | skip
  simp only[V.γ,zhB t ρ h]
 | .fs a q,u,h=>by
  cases u <;> simp only[mV,Bool.and_eq_true,Nat.beq_eq]at h <;> first | (simp at h;done) | skip
  obtain⟨s1,s2,s3,s4,s5,s6,s7,s8⟩:=t.s q (by simpa using h.2)
  simp only[V.γ,<- h.1.2,s1,s2,s3,s4]
 | .fp a q o,u,h=>by cases u <;> simp only[mV]at h <;> (simp at h;done)
 | .mp a,u,h=>by
  cases u <;> simp only[mV]at h <;> first | (simp at h;done) | skip
  rw[zar h];rfl
 | .mnil,u,h=>by cases u <;> simp only[mV]at h <;> first | (simp at h;done) | rfl
theorem zhB {σ:Sg} (t:TrE σ E E') (ρ:Rho):∀ {l m:List V},mL σ l m=true->γL E ρ m=γL E' ρ l
 | [],m,h=>by cases m <;> simp only[mL]at h <;> first | (simp at h;done) | rfl
 | x::r,m,h=>by
  cases m <;> simp only[mL,Bool.and_eq_true]at h <;> first | (simp at h;done) | skip
  simp only[γL,zds t ρ h.1,zhB t ρ h.2]
end
theorem mL_len {σ:Sg}:∀ {l m:List V},mL σ l m=true->m.length=l.length
 | [],m,h=>by cases m <;> simp only[mL]at h <;> first | (simp at h;done) | rfl
 | x::r,m,h=>by
  cases m <;> simp only[mL,Bool.and_eq_true]at h <;> first | (simp at h;done) | skip
  simp[mL_len h.2]
theorem zfo {l r:Tr V} {d:Nat} {z:V} {i:Nat}:zay (.node l r) (d+1) z i=if zd3 i=true then zay l d z (i / 2) else zay r d z (i / 2):=by
 show (Bool.rec (motive:=fun _=>Option V) (r.get d (Nat.div i 2)) (l.get d (Nat.div i 2)) (zd3 i)).getD z=_
 cases zd3 i <;> rfl
theorem zkF {σ:Sg} (t:TrE σ E E') (ρ:Rho) {z z':V} (hz:mV σ z z'=true):∀ {a:Tr V} (d i:Nat),mTrN σ z' a=true->z'.γ E ρ=(zay a d z i).γ E' ρ
 | .nil,d,i,h=>by
  have:zay (.nil:Tr V) d z i=z:=by unfold zay;rw[Tr.get_nil];rfl
  rw[this];exact zds t ρ hz
 | .leaf x,d,i,h=>by
  cases d with
  | zero=>exact zds t ρ h
  | succ d=>exact zds t ρ hz
 | .node l r,d,i,h=>by
  simp only[mTrN,Bool.and_eq_true]at h
  cases d with
  | zero=>exact zds t ρ hz
  | succ d=>
   rw[zfo]
   split
   ·exact zkF t ρ hz d _ h.1
   ·exact zkF t ρ hz d _ h.2
theorem zkE {σ:Sg} (t:TrE σ E E') (ρ:Rho) {z z':V} (hz:mV σ z z'=true):∀ {a b:Tr V} (_:mTr σ z' a b=true) (d i:Nat),(zay b d z' i).γ E ρ=(zay a d z i).γ E' ρ
 | a,.nil,h,d,i=>by
  have h:mTrN σ z' a=true:=by cases a <;> exact h
  have:zay (.nil:Tr V) d z' i=z':=by unfold zay;rw[Tr.get_nil];rfl
  rw[this];exact zkF t ρ hz d i h
 | .leaf x,.leaf y,h,d,i=>by
  cases d with
  | zero=>exact zds t ρ h
  | succ d=>exact zds t ρ hz
 | .node l r,.node l' r',h,d,i=>by
  simp only[mTr,Bool.and_eq_true]at h
  cases d with
  | zero=>exact zds t ρ hz
  | succ d=>
   rw[zfo,zfo]
   split
   ·exact zkE t ρ hz h.1 d _
   ·exact zkE t ρ hz h.2 d _
 | .nil,.leaf y,h,d,i=>by simp[mTr]at h
 | .nil,.node l r,h,d,i=>by simp[mTr]at h
 | .leaf x,.node l r,h,d,i=>by simp[mTr]at h
 | .node l r,.leaf y,h,d,i=>by simp[mTr]at h
theorem zeE {n:Ev.P}:∀ {a:Tr V} (d i:Nat) (v:V),zgW n a=true->a.get d i=some v->v.bd n.toNat
 | .nil,d,i,v,h,hg=>by cases d <;> cases hg
 | .leaf x,d,i,v,h,hg=>by
  cases d with
  | zero=>have hg:some x=some v:=hg;cases hg;exact zc2 _ h
  | succ d=>cases hg
 | .node l r,d,i,v,h,hg=>by
  simp only[zgW,Bool.and_eq_true]at h
  cases d with
  | zero=>cases hg
  | succ d=>
   have hg:Bool.rec (motive:=fun _=>Option V) (r.get d (Nat.div i 2)) (l.get d (Nat.div i 2)) (zd3 i)=some v:=hg
   cases he:zd3 i with
   | true=>rw[he]at hg;exact zeE d _ v h.1 hg
   | false=>rw[he]at hg;exact zeE d _ v h.2 hg
theorem oBd_ok {n:Ev.P} {o:O} (h:oBdB n o=true):o.bd n.toNat:=by
 cases o with
 | cells t l=>exact zc1 l h
 | arr t m d z tr=>
  simp only[oBdB,Bool.and_eq_true]at h
  exact⟨zc2 z h.1,fun i v _ hv=>zeE d i v h.2 hv⟩
 | vec t e m l=>exact zc1 l h
 | varr t m d z tr=>
  simp only[oBdB,Bool.and_eq_true]at h
  exact⟨zc2 z h.1,fun i v _ hv=>zeE d i v h.2 hv⟩
 | row q z N I l=>exact zc1 l h
 | oa t q m d tr=>exact fun i v _ hv=>zeE d i v h hv
 | map l=>
  intro p hp
  have:=(zdZ _ _).1 h p hp
  simp only[Bool.and_eq_true]at this
  exact⟨zc2 _ this.1,zc2 _ this.2⟩
 | x o=>cases h
 | dead=>trivial
theorem mP_ok {σ:Sg} (t:TrE σ E E') (ρ:Rho):∀ {l m:List (V × V)},mP σ l m=true->m.map (fun p=>(p.1.γ E ρ,p.2.γ E ρ))=l.map (fun p=>(p.1.γ E' ρ,p.2.γ E' ρ))
 | [],m,h=>by cases m <;> simp only[mP]at h <;> first | (simp at h;done) | rfl
 | (a,b)::r,m,h=>by
  cases m with
  | nil=>simp[mP]at h
  | cons p s=>
   obtain⟨c,d⟩:=p
   simp only[mP,Bool.and_eq_true]at h
   simp only[List.map_cons,zds t ρ h.1.1,zds t ρ h.1.2,mP_ok t ρ h.2]
theorem zpb {σ:Sg} {o u:O} (h:mO σ o u=true):u.live=o.live:=by
 cases o <;> cases u <;> simp only[mO]at h <;> first | (simp at h;done) | rfl
theorem mO_mine {σ:Sg} {o u:O} (h:mO σ o u=true):u.mine=o.mine:=by
 cases o <;> cases u <;> simp only[mO]at h <;> first | (simp at h;done) | rfl
def znm (E:Env) (o:O):Prop:=match o with
 | .row q z N I l=>l≠[]->I.den E=(E.s q).idx/\(E.s q).idx<(E.s q).len/\l.length=z/\∀ ρ i,i<l.length->(E.s q).cs[(E.s q).off+(E.s q).idx*z+i]? = (l[i]?).map (V.γ E ρ)
 | _=>True
theorem mO_is {σ:Sg} (t:TrE σ E E') {ρ:Rho} {L:Pl} {hp:Array Obj} {o u:O} (h:mO σ o u=true) (hr:znm E' o) (hi:u.Is E ρ L hp):o.Is E' ρ L hp:=by
 cases o <;> cases u <;> simp only[mO,Bool.and_eq_true,Nat.beq_eq]at h <;> first | (simp at h;done) | skip
 ·-- cells
  obtain⟨rfl,h2⟩:=h
  simp only[O.Is]at hi ⊢
  rw[<- zhB t ρ h2];exact hi
 ·-- arr
  obtain⟨⟨⟨⟨rfl,rfl⟩,rfl⟩,h4⟩,h5⟩:=h
  obtain⟨g1,cs,g2,g3,g4⟩:=hi
  exact⟨g1,cs,g2,g3,fun i hi=>by rw[g4 i hi,zkE t ρ h4 h5]⟩
 ·-- vec
  obtain⟨⟨⟨rfl,rfl⟩,rfl⟩,h4⟩:=h
  obtain⟨cs,g2,g3,g4,g5,g6,g7⟩:=hi
  have hl:=mL_len h4
  have hγ:=zhB t ρ h4
  refine⟨cs,g2,g3,g4,g5,by rw[<- hl];exact g6,fun i hi=>?_⟩
  rw[g7 i (by rw[hl];exact hi),<- γL_get,<- γL_get,hγ]
 ·-- varr
  obtain⟨⟨⟨⟨rfl,rfl⟩,rfl⟩,h4⟩,h5⟩:=h
  obtain⟨g1,cs,g2,g3,g4,g5,g6⟩:=hi
  exact⟨g1,cs,g2,g3,g4,g5,fun i hi=>by rw[g6 i hi,zkE t ρ h4 h5]⟩
 ·-- row
  rename_i q z M I l q' z' M' I' l'
  obtain⟨⟨⟨rfl,rfl⟩,h3⟩,h4⟩:=h
  obtain⟨g1,g2,g3,g4,g5⟩:=hi
  obtain⟨s1,s2,s3,s4,s5,s6,s7,s8⟩:=t.s q (by simpa using h4)
  refine⟨g1.trans s1.symm,by rw[s6,s7,s8];exact g2,s5.trans g3,by rw[<- mE_ok t h3,s3];exact g4,fun hl=>?_⟩
  obtain⟨r1,r2,r3,r4⟩:=hr hl
  exact⟨r1,r2,r3,fun i hi=>r4 ρ i hi⟩
 ·-- oa
  rename_i t1 q1 n1 d1 tr1 t2 q2 n2 d2 tr2
  obtain⟨⟨⟨⟨⟨⟨rfl,rfl⟩,rfl⟩,h4⟩,h5⟩,h6⟩,h7⟩:=h
  have e1:tr1=.nil:=by cases tr1 <;> first | rfl | (cases h4;done)
  have e2:tr2=.nil:=by cases tr2 <;> first | rfl | (cases h5;done)
  subst e1 e2
  have h6:50<=q1:=by simpa using h6
  have hr:σ (100000+q1)=some (.lit (.ofNat q2)):=by
   unfold renB at h7
   split at h7
   ·rename_i n hn
    rw[yL]at h7
    rw[hn,of_decide_eq_true h7]
   ·cases h7
  have hcs:=t.r q1 q2 h6 hr
  obtain⟨g1,cs,g2,g3,g4,g5⟩:=hi
  refine⟨g1,cs,g2,g3,by rw[hcs];exact g4,fun i hi=>?_⟩
  rw[g5 i hi]
  unfold zdq
  rw[Tr.get_nil,hcs]
 ·-- map
  obtain⟨es,g1,g2,g3⟩:=hi
  exact⟨es,g1,by rw[<- mP_ok t ρ h];exact g2,g3⟩
 ·trivial
theorem zdp {q:Ev.P->O->Bool}:∀ (t:PT O) (f:Ev.P->Ev.P) (p:Ev.P) (o:O),zht q f t=true->t.get p=some o->q (f p) o=true
 | .e,f,p,o,h,hg=>by rw[PT.get_e]at hg;cases hg
 | .n v l r,f,p,o,h,hg=>by
  simp only[zht,Bool.and_eq_true]at h
  obtain⟨⟨h1,h2⟩,h3⟩:=h
  cases p with
  | h=>
   have hg:v=some o:=hg
   rw[hg]at h1;exact h1
  | o p=>exact zdp l (fun p=>f (.o p)) p o h2 hg
  | i p=>exact zdp r (fun p=>f (.i p)) p o h3 hg
def FrL (E:Env) (ρ:Rho) (n:Nat) (l:List (Ky × V)) (tmps:Array Value):Prop:=∀ t v,(zy t,v)∈l->tmps[t]? = some (v.γ E ρ)/\v.bd n
theorem zps:∀ (l:List (Ky × V)) (fr:Fr) (k:Fr->Nat),jE (fun fr k=>k fr) (fun (p:Ky × V) _ ih fr k=>pc p (fun q v=>zeM q fr v (fun fr=>ih fr k))) l fr k=0->∃ fr',k fr'=0/\∀ q v,fr'.get q=some v->(q,v)∈l\/fr.get q=some v
 | [],fr,k,h=>⟨fr,h,fun q v hv=>.inr hv⟩
 | (q0,v0)::r,fr,k,h=>by
  have h:zeM q0 fr v0 (fun fr=>jE (fun fr k=>k fr) (fun (p:Ky × V) _ ih fr k=>pc p (fun q v=>zeM q fr v (fun fr=>ih fr k))) r fr k)=0:=h
  obtain⟨fr1,h,g1,g2⟩:=zeL h
  obtain⟨fr',h1,h2⟩:=zps r fr1 k h
  refine⟨fr',h1,fun q v hv=>?_⟩
  rcases h2 q v hv with h3 | h3
  ·exact .inl (List.mem_cons_of_mem _ h3)
  ·by_cases hq:q=q0
   ·subst hq
    rw[g1]at h3
    cases h3
    exact .inl (List.mem_cons_self ..)
   ·rw[g2 q hq]at h3;exact .inr h3
theorem frOf_ok {l:List (Ky × V)} {k:Fr->Nat} (h:frOf l k=0):∃ fr,k fr=0/\∀ q v,fr.get q=some v->(q,v)∈l:=by
 obtain⟨fr,h1,h2⟩:=zps l .e k h
 refine⟨fr,h1,fun q v hv=>?_⟩
 rcases h2 q v hv with h3 | h3
 ·exact h3
 ·rw[Fr.get_e]at h3;cases h3
structure Wd (w0:World) (Lo:Ev.P) (ρ:Rho) (h:H) (w:World):Prop where
 lo:h.lo=Lo
 os:w.os=w0.os
 tape:w.tape=w0.tape
 output:w.output=w0.output
 size:w0.heap.size<=w.heap.size
 keep:∀ b,b<w0.heap.size->w.heap[b]? = w0.heap[b]?
 new:∀ p o,h.t.get p=some o->o.live=true->Lo.toNat<=p.toNat->w0.heap.size<=(ρ p).b
theorem Wd.step {w0:World} {lo:Ev.P} {ρ ρ':Rho} {h h':H} {w w':World} (d:Wd w0 lo ρ h w) (x:Ext ρ h w ρ' h' w'):Wd w0 lo ρ' h' w':=by
 refine⟨x.lo.trans d.lo,x.os.trans d.os,x.tape.trans d.tape,x.output.trans d.output,Nat.le_trans d.size x.size,fun b hb=>?_,fun p o hp hl hlo=>?_⟩
 ·rw[x.keep b (Nat.lt_of_lt_of_le hb d.size) (fun p o hp hl hlo=>by have:=d.new p o hp hl (by rw[<- d.lo];exact hlo);omega)]
  exact d.keep b hb
 ·by_cases hn:p.toNat<h.n.toNat
  ·obtain⟨o',h1,h2⟩:=x.liv p o hn hp hl
   rw[x.agree p hn];exact d.new p o' h1 h2 hlo
  ·rcases x.new p o (by omega) hp hl with h1 | ⟨q,o',h1,h2,h3,h4⟩
   ·exact Nat.le_trans d.size h1
   ·rw[<- h4];exact d.new q o' h1 h2 (by rw[<- d.lo];exact h3)
theorem zmo {S:GS} {σ:Sg} {fr:Fr} {h:H} (hm:zhz S σ fr h=true) (t:TrE σ E E') (hrow:∀ p o,S.h.t.get p=some o->znm E' o) {w0:World} {lo:Ev.P} {ρ:Rho} {w:World} {tmps:Array Value} (d:Wd w0 lo ρ h w) (hs:Sat E ρ h w) (hf:yr E ρ h.n.toNat fr tmps) :
  Wd w0 lo ρ S.h w/\Sat E' ρ S.h w/\FrL E' ρ S.h.n.toNat S.fr tmps:=by
 unfold zhz at hm
 rw[zbA,zbA]at hm
 simp only[Bool.and_eq_true]at hm
 obtain⟨⟨hlo,hfr⟩,hh⟩:=hm
 have hlo:=zar hlo
 have obj:∀ p o,S.h.t.get p=some o->p.toNat<S.h.n.toNat/\o.bd S.h.n.toNat/\∃ u,h.t.get p=some u/\mO σ o u=true:=by
  intro p o hp
  have:=zdp _ _ p o hh hp
  simp only[Bool.and_eq_true]at this
  obtain⟨⟨h1,h2⟩,h3⟩:=this
  refine⟨by simpa [pLt] using h1,oBd_ok h2,?_⟩
  cases hu:h.t.get p with
  | none=>rw[hu]at h3;cases h3
  | some u=>rw[hu]at h3;exact⟨u,rfl,h3⟩
 refine⟨⟨hlo.trans d.lo,d.os,d.tape,d.output,d.size,d.keep,fun p o hp hl hl2=>?_⟩,⟨fun p o hp=>?_,fun p q o o' hp hq l1 l2 he=>?_,fun p o hp=>⟨(obj p o hp).1,(obj p o hp).2.1⟩⟩,fun t' v hv=>?_⟩
 ·obtain⟨_,_,u,hu,hm⟩:=obj p o hp
  exact d.new p u hu (by rw[zpb hm];exact hl) hl2
 ·obtain⟨_,_,u,hu,hm⟩:=obj p o hp
  exact mO_is t hm (hrow p o hp) (hs.obj p u hu)
 ·obtain⟨_,_,u,hu,hm⟩:=obj p o hp
  obtain⟨_,_,u',hu',hm'⟩:=obj q o' hq
  exact hs.inj p q u u' hu hu' (by rw[mO_mine hm];exact l1) (by rw[zpb hm'];exact l2) he
 ·have:=zt hfr _ hv
  simp only[Bool.and_eq_true]at this
  obtain⟨h1,h2⟩:=this
  cases hu:fr.get (zy t') with
  | none=>rw[hu]at h2;cases h2
  | some u=>
   rw[hu]at h2
   obtain⟨h3,_⟩:=hf t' u hu
   exact⟨by rw[h3,zds t ρ h2],zc2 v h1⟩
def zfk (E:Env) (P:Program) (N:Nat) (w0:World) (lo:Ev.P) (ko:K2) (QQ:Exit->Act->World->Prop):Prop:=
 ∀ ae fr h fa,ko ae fr h fa=0->FaOk E fa->∀ ρ w (a:Act),Wd w0 lo ρ h w->Sat E ρ h w->yr E ρ h.n.toNat fr a.tmps->N<=a.tmps.size->a.defers=[]->QQ (AE.exit' ae) a w
def ziR (P:Program):ZC->(Exit->Act->World->Prop)->Exit->Act->World->Prop
 | .hole,QQ=>QQ
 | .seqL z b,QQ=>ziR P z (Exit.then (b.wp P QQ) QQ)
 | .seqR _ z,QQ=>ziR P z QQ
 | .block i z,QQ=>ziR P z (Exit.inBlock i QQ)
theorem zlL {Y:Ty} (hY:TyOk P Y) (hm:P.follows .mixedOrders=true) {dr:Nat->Option Dr} {g:Ctx} (hcall:zk E P g.call) {b:Code} (hB:zam dr b=true) {w0:World} {lo:Ev.P} {ko:K2} {QQ:Exit->Act->World->Prop} (h:zfk E P N w0 lo ko QQ) :
  zfk E P N w0 lo (kSeq (zax Y N dr b) g ko) (Exit.then (b.wp P QQ) QQ):=by
 intro ae fr hh fa hk hfa ρ w a d hs hf hN hd
 cases ae with
 | normal=>
  obtain⟨ae,fr1,h1,fa1,hk1,hfa1,r1⟩:=j2 hY hm hcall b fr hh fa ko hB hfa hk
  refine r1 ρ w a QQ hs hf hN hd ?_
  rintro a' w' ⟨ρ',f1,n1,d1,s1,x1⟩
  exact h ae fr1 h1 fa1 hk1 hfa1 ρ' w' a' (d.step x1) s1 f1 n1 d1
 | ret=>exact h .ret fr hh fa hk hfa ρ w a d hs hf hN hd
 | exit i=>exact h (.exit i) fr hh fa hk hfa ρ w a d hs hf hN hd
theorem zm7 {i:Nat} {w0:World} {lo:Ev.P} {ko:K2} {QQ:Exit->Act->World->Prop} (h:zfk E P N w0 lo ko QQ):zfk E P N w0 lo (kBlk i ko) (Exit.inBlock i QQ):=by
 intro ae fr hh fa hk hfa ρ w a d hs hf hN hd
 cases ae with
 | normal=>exact h .normal fr hh fa hk hfa ρ w a d hs hf hN hd
 | ret=>exact h .ret fr hh fa hk hfa ρ w a d hs hf hN hd
 | exit j=>
  have hk:bc (Nat.beq j i) (ko .normal fr hh fa) (ko (.exit j) fr hh fa)=0:=hk
  show Exit.inBlock i QQ (.exit j) a w
  cases hj:Nat.beq j i with
  | true=>
   rw[hj]at hk
   have hj:j=i:=by simpa using hj
   simp only[Exit.inBlock,hj,if_true]
   exact h .normal fr hh fa hk hfa ρ w a d hs hf hN hd
  | false=>
   rw[hj]at hk
   have hj:¬ j=i:=by intro e;subst e;simp at hj
   simp only[Exit.inBlock,hj,if_false]
   exact h (.exit j) fr hh fa hk hfa ρ w a d hs hf hN hd
theorem zdN {Y:Ty} (hY:TyOk P Y) (hm:P.follows .mixedOrders=true) {dr:Nat->Option Dr} {g:Ctx} (hcall:zk E P g.call) {w0:World} {lo:Ev.P}:∀ (z:ZC) (ko:K2) (QQ:Exit->Act->World->Prop),z.drB dr=true->zfk E P N w0 lo ko QQ->zfk E P N w0 lo (zOut (zGo Y N dr z) g ko) (ziR P z QQ)
 | .hole,ko,QQ,hB,h=>h
 | .seqL z b,ko,QQ,hB,h=>by
  simp only[ZC.drB,Bool.and_eq_true]at hB
  exact zdN hY hm hcall z _ _ hB.1 (zlL hY hm hcall hB.2 h)
 | .seqR a z,ko,QQ,hB,h=>by
  simp only[ZC.drB,Bool.and_eq_true]at hB
  exact zdN hY hm hcall z ko QQ hB.2 h
 | .block i z,ko,QQ,hB,h=>zdN hY hm hcall z _ _ hB (zm7 h)
theorem zgo {Y:Ty} (hY:TyOk P Y) (hm:P.follows .mixedOrders=true) {dr:Nat->Option Dr} {g:Ctx} (hcall:zk E P g.call) {w0:World} {lo:Ev.P} {x:Code} {k:K1}:∀ (z:ZC) (fr:Fr) (h:H) (fa:Fa) (ko:K2) (QQ:Exit->Act->World->Prop),z.drB dr=true->zIn (zGo Y N dr z) g fr h fa k ko=0->FaOk E fa->zfk E P N w0 lo ko QQ ->
  (∀ fr' h' fa',k fr' h' fa'=0->FaOk E fa'->∀ ρ' w' (a':Act),Wd w0 lo ρ' h' w'->Sat E ρ' h' w'->yr E ρ' h'.n.toNat fr' a'.tmps->N<=a'.tmps.size->a'.defers=[]->x.wp P (ziR P z QQ) a' w') ->
  ∀ ρ w (a:Act),Wd w0 lo ρ h w->Sat E ρ h w->yr E ρ h.n.toNat fr a.tmps->N<=a.tmps.size->a.defers=[]->(z.plug x).wp P QQ a w
 | .hole,fr,h,fa,ko,QQ,hB,hk,hfa,hko,hx,ρ,w,a,d,hs,hf,hN,hd=>hx fr h fa hk hfa ρ w a d hs hf hN hd
 | .seqL z b,fr,h,fa,ko,QQ,hB,hk,hfa,hko,hx,ρ,w,a,d,hs,hf,hN,hd=>by
  simp only[ZC.drB,Bool.and_eq_true]at hB
  exact wp_seq (zgo hY hm hcall z fr h fa _ _ hB.1 hk hfa (zlL hY hm hcall hB.2 hko) hx ρ w a d hs hf hN hd)
 | .seqR b z,fr,h,fa,ko,QQ,hB,hk,hfa,hko,hx,ρ,w,a,d,hs,hf,hN,hd=>by
  simp only[ZC.drB,Bool.and_eq_true]at hB
  obtain⟨ae,fr1,h1,fa1,hk1,hfa1,r1⟩:=j2 hY hm hcall b fr h fa _ hB.1 hfa hk
  refine wp_seq (r1 ρ w a _ hs hf hN hd ?_)
  rintro a' w' ⟨ρ',f1,n1,d1,s1,x1⟩
  cases ae with
  | normal=>exact zgo hY hm hcall z fr1 h1 fa1 ko QQ hB.2 hk1 hfa1 hko hx ρ' w' a' (d.step x1) s1 f1 n1 d1
  | ret=>exact hko .ret fr1 h1 fa1 hk1 hfa1 ρ' w' a' (d.step x1) s1 f1 n1 d1
  | exit i=>exact hko (.exit i) fr1 h1 fa1 hk1 hfa1 ρ' w' a' (d.step x1) s1 f1 n1 d1
 | .block i z,fr,h,fa,ko,QQ,hB,hk,hfa,hko,hx,ρ,w,a,d,hs,hf,hN,hd=>
  wp_block (zgo hY hm hcall z fr h fa _ _ hB hk hfa (zm7 hko) hx ρ w a d hs hf hN hd)
theorem zf1 {x:Code} {QQ:Exit->Act->World->Prop}:∀ {n m:Nat} (a:Act) (w:World),n<=m->Code.rounds P x QQ n a w->Code.rounds P x QQ m a w
 | 0,m,a,w,h,hr=>hr.elim
 | n+1,0,a,w,h,hr=>by omega
 | n+1,m+1,a,w,h,hr=>by
  rw[rounds_succ]at hr ⊢
  refine Go.wp_mono hr fun e a' w' hq=>?_
  cases e with
  | normal=>exact zf1 a' w' (by omega) hq
  | _=>exact hq
theorem zmk {st:Nat->GS} {nx:List (Nat × Sg)} {fr:Fr} {h:H} (hk:zhx st nx fr h=0):nx≠[]/\∀ p∈nx,zhz (st p.1) p.2 fr h=true:=by
 cases nx with
 | nil=>exact absurd (show (1:Nat)=0 from hk) (by simp)
 | cons p r=>
  obtain⟨h1,_⟩:=zK (show bc (zW (fun p:Nat × Sg=>zhz (st p.1) p.2 fr h) (p::r)) 0 1=0 from hk) (by simp)
  exact⟨by simp,zt h1⟩
def zpM (st:Nat->GS) (Inv:Nat->Nat->Env->Prop) (E:Env) (nx:List (Nat × Sg)) (m:Nat):Prop:=
 nx≠[]->∃ j' σ m' E',(j',σ)∈nx/\m'<m/\Inv m' j' E'/\TrE σ E E'/\∀ p o,(st j').h.t.get p=some o->znm E' o
def koB (rs:List IR):K2:=fun e fr h fa=>zbU e (zkm rs fr h (fun v=>bc (V.beq v (.b true)) 0 1) 1) (zkm rs fr h (fun v=>bc (V.beq v (.b true)) 0 1) 1) (fun _=>1)
theorem zts {Y:Ty} (hY:TyOk P Y) {f:Func} {rs:List IR} (hrs:zgk Y f.results.toList=some rs) (w0:World) (lo:Ev.P) (E:Env) :
  zfk E P N w0 lo (koB rs) (bodyPost P f (fun e w'=>e=.returned (.bool true)/\Below w0.heap.size w0 w')):=by
 intro ae fr h fa hk hfa ρ w a d hs hf hN hd
 have fin:zkm rs fr h (fun v=>bc (V.beq v (.b true)) 0 1) 1=0->bodyPost P f (fun e w'=>e=.returned (.bool true)/\Below w0.heap.size w0 w') .ret a w:=by
  intro hr
  obtain⟨vs,hvs,hr⟩:=z9 (show oc (zhk fr h rs) _ _=0 from hr) (by simp)
  obtain⟨e1,b1⟩:=zci hY hrs hs hf hvs
  have hv:vs=[.b true]:=by
   match vs,hr with
   | [],hr=>
    obtain⟨h1,_⟩:=zK (show bc (V.beq (.tup []) (.b true)) 0 1=0 from hr) (by simp)
    cases V.beq_ok h1
   | [v],hr=>
    obtain⟨h1,_⟩:=zK (show bc (V.beq v (.b true)) 0 1=0 from hr) (by simp)
    rw[V.beq_ok h1]
   | x::y::r,hr=>
    obtain⟨h1,_⟩:=zK (show bc (V.beq (.tup (x::y::r)) (.b true)) 0 1=0 from hr) (by simp)
    cases V.beq_ok h1
  subst hv
  refine⟨hd,.bool true,?_,rfl,d.os,d.tape,d.output,d.size,d.keep⟩
  simpa [γL,V.γ] using e1
 cases ae with
 | normal=>exact fin hk
 | ret=>exact fin hk
 | exit i=>exact absurd (show (1:Nat)=0 from hk) (by simp)
end Go.Ev
end
set_option linter.unusedSimpArgs false
set_option linter.unusedVariables false
noncomputable section
namespace Go.Ev
open Go Go.RowKit
variable {E:Env} {P:Program}
def zdh:Code->Option (ZC × Code)
 | .seq a b=>match zdh a with
  | some (z,x)=>some (.seqL z b,x)
  | none=>match zdh b with
   | some (z,x)=>some (.seqR a z,x)
   | none=>none
 | .block i a=>match zdh a with
  | some (z,x)=>some (.block i z,x)
  | none=>none
 | .loop x=>some (.hole,x)
 | _=>none
theorem zgn:∀ {c:Code} {z:ZC} {x:Code},zdh c=some (z,x)->c=z.plug (.loop x)
 | .seq a b,z,x,h=>by
  simp only[zdh]at h
  split at h
  ·rename_i z' x' h1
   simp at h
   obtain⟨rfl,rfl⟩:=h
   rw[zgn h1];rfl
  ·split at h
   ·rename_i z' x' h1
    simp at h
    obtain⟨rfl,rfl⟩:=h
    rw[zgn h1];rfl
   ·simp at h
 | .block i a,z,x,h=>by
  simp only[zdh]at h
  split at h
  ·rename_i z' x' h1
   simp at h
   obtain⟨rfl,rfl⟩:=h
   rw[zgn h1];rfl
  ·simp at h
 | .loop a,z,x,h=>by
  simp[zdh]at h
  obtain⟨rfl,rfl⟩:=h
  rfl
 | .skip,_,_,h=>by simp[zdh]at h
 | .region ..,_,_,h=>by simp[zdh]at h
 | .cond ..,_,_,h=>by simp[zdh]at h
 | .rangeFunc ..,_,_,h=>by simp[zdh]at h
 | .exit ..,_,_,h=>by simp[zdh]at h
 | .scope ..,_,_,h=>by simp[zdh]at h
 | .label ..,_,_,h=>by simp[zdh]at h
 | .goto ..,_,_,h=>by simp[zdh]at h
 | .ret,_,_,h=>by simp[zdh]at h
 | .refuse ..,_,_,h=>by simp[zdh]at h
theorem zeS {dr:Nat->Option Dr} {x:Code}:∀ {z:ZC},zam dr (z.plug (.loop x))=true->z.drB dr=true/\zam dr x=true
 | .hole,h=>⟨rfl,h⟩
 | .seqL z b,h=>by
  simp only[ZC.plug,zam,Bool.and_eq_true]at h
  obtain⟨h1,h2⟩:=zeS h.1
  exact⟨by simp only[ZC.drB,Bool.and_eq_true];exact⟨h1,h.2⟩,h2⟩
 | .seqR a z,h=>by
  simp only[ZC.plug,zam,Bool.and_eq_true]at h
  obtain⟨h1,h2⟩:=zeS h.2
  exact⟨by simp only[ZC.drB,Bool.and_eq_true];exact⟨h.1,h1⟩,h2⟩
 | .block i z,h=>zeS (z:=z) h
structure CutX where
 z:ZI
 x:IC
 rs:List IR
def cutX (Y:Ty) (dr:Nat->Option Dr) (f:Func):Option CutX:=match f.body,zgk Y f.results.toList with
 | some c,some rs=>match zdh c with
  | some (z,x)=>some ⟨zGo Y f.ntmps dr z,zax Y f.ntmps dr x,rs⟩
  | none=>none
 | _,_=>none
def anewS (σ:Sg) (E:Env) (q:Nat):Row:=if q<50 then E.s q else match σ (100000+q) with
 | some (.lit (.ofNat q'))=>E.s q'
 | _=>E.s q
def anew (σ:Sg) (E:Env):Env:=⟨fun i=>match σ i with
 | some s=>s.den E
 | none=>0,E.b,anewS σ E⟩
end Go.Ev
end
