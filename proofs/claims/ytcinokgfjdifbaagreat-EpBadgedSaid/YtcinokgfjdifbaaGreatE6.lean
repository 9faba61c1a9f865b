import Derived.Test.YtcinokgfjdifbaaGreatE5
import Derived.Test.YtcinokgfjdifbaaGreatE4
import Derived.Test.YtcinokgfjdifbaaGreatE3
set_option linter.unusedSimpArgs false
set_option linter.unusedVariables false
noncomputable section
namespace Go.Ev
open Go
variable {E E':Env} {P:Program}
def yo (cs:Array Value) (N:Nat) (f:Nat->Int):Prop:=cs.size=N/\∀ i,i<N->cs[i]? = some (.int .u64 (f i))
def zjJ (N:Nat) (f:Nat->Int):Array Value:=Array.ofFn (n:=N) fun i=>Value.int .u64 (f i)
theorem zpO (N:Nat) (f:Nat->Int):yo (zjJ N f) N f:=⟨by simp[zjJ],fun i hi=>by simp[zjJ,hi]⟩
def zej (N:Nat) (f:Nat->Int):Row:=⟨0,0,0,0,0,0,0,zjJ N f,(0,0)⟩
theorem jU (N:Nat) (f:Nat->Int):yo (zej N f).cs N f:=zpO N f
structure MemAt (c:MC) (w:World) (bm ba:Nat) (f:Nat->Int) (st:Int):Prop where
 ne:bm≠ba
 m:w.heap[bm]? = some (.cells #[.slice (some ⟨ba,0,none⟩) c.N c.N,.int .i64 st] c.tM (0,0))
 a:∃ cs,w.heap[ba]? = some (.cells cs c.tA (0,0))/\yo cs c.N f
structure KeepM (bm ba:Nat) (w w':World):Prop where
 os:w'.os=w.os
 tape:w'.tape=w.tape
 output:w'.output=w.output
 size:w.heap.size<=w'.heap.size
 keep:∀ b,b<w.heap.size->b≠bm->b≠ba->w'.heap[b]? = w.heap[b]?
def za9 (st:Int) (k:Nat):Int:=if k=0 then st else arS .add .i64 st k
def zaO (P:Program) (c:MC) (F:Nat) (args:List Value) (f:Nat->Int) (v:Value) (f':Nat->Int) (k:Nat):Prop:=
 j6 P F/\∀ w bm ba st,MemAt c w bm ba f st->Calls P F (Value.pointer (some ⟨bm,0,none⟩)::args).toArray w fun e w'=>e=.returned v/\MemAt c w' bm ba f' (za9 st k)/\KeepM bm ba w w'
theorem stP_den (E:Env) (k:Nat):(stP k).den E=za9 (E.i 5) k:=by
 unfold stP za9
 by_cases h:k=0
 ·subst h;rfl
 ·have:Nat.beq k 0=false:=by
   cases k with
   | zero=>exact absurd rfl h
   | succ n=>rfl
  rw[this,if_neg h];rfl
structure Ent where
 F:Nat
 l:List V
 q':Nat
 v:V
 k:SE
def stE (fa:Fa) (e k:SE):V:=mkE .i64 (opS fa .add .i64 e k)
theorem stE_γ {fa:Fa} (hf:FaOk E fa) (e k:SE) (ρ:Rho):(stE fa e k).γ E ρ=.int .i64 (arS .add .i64 (e.den E) (k.den E))/\(stE fa e k).bd 0:=by
 unfold stE
 obtain⟨g1,g2⟩:=zja (E:=E) .i64 (opS fa .add .i64 e k) ρ
 exact⟨by rw[g1,znU hf],g2⟩
def oaO {σ:Type} (o:O) (f:TypeId->Nat->Nat->Nat->Tr V->σ) (e:σ):σ:=match o with
 | .oa t q n d tr=>f t q n d tr
 | _=>e
def trNil (t:Tr V):Bool:=match t with
 | .nil=>true
 | _=>false
def mt2 (c:MC) (e:Ent) (F:Nat) (fa:Fa) (m id:Ev.P) (st:SE) (r:List V):Option AR:=
 bc (Nat.beq F e.F && jG r e.l && zcJ .h e.l && e.v.bdB .h) (some ⟨m,id,.cells c.tM [.sl id 0 c.N c.N,stE fa st e.k],.oa c.tA e.q' c.N 13 .nil,e.v⟩) none
def mt1 (c:MC) (tbl:Nat->Option Ent) (F:Nat) (h:H) (fa:Fa) (r:List V) (m:Ev.P):Option AR:=
 bc (zd2 h m) (oc (yR h m) (fun o=>memO o (fun tm id n n' st=>bc (Nat.beq tm c.tM && Nat.beq n c.N && Nat.beq n' c.N && zd2 h id) (oc (yR h id) (fun oi=>oaO oi (fun ta q n2 d tr=>
  bc (Nat.beq ta c.tA && Nat.beq n2 c.N && Nat.beq d 13 && trNil tr) (oc (tbl q) (fun e=>mt2 c e F fa m id st r) none) none) none) none) none) none) none) none
def zml (c:MC) (tbl:Nat->Option Ent) (F:Nat) (l:List V) (h:H) (fa:Fa):Option AR:=
 zaD none (fun x r=>za6 (some x) (fun m off=>bc (Nat.beq off 0) (mt1 c tbl F h fa r m) none) none) l
def mtH (c:MC) (tbl:Nat->Option Ent) (inner:z3):z3:=fun F l h fa k=>
 oc (zml c tbl F l h fa) (fun x=>x.go (fun m id om oi v=>hc h (fun n lo t=>zbg m t om (fun t=>zbg id t oi (fun t=>k v ⟨n,lo,t⟩ fa))))) (inner F l h fa k)
def zfl (P:Program) (c:MC) (E:Env) (q:Nat) (e:Ent):Prop:=∃ f f' k,1<=k/\e.k.den E=(k:Nat)/\yo (E.s q).cs c.N f/\yo (E.s e.q').cs c.N f'/\∀ ρ,zaO P c e.F (γL E ρ e.l) f (e.v.γ E ρ) f' k
theorem oaO_ok {β:Type} {o:O} {f:TypeId->Nat->Nat->Nat->Tr V->Option β} {r:β} (h:oaO o f none=some r):∃ t q n d tr,o=.oa t q n d tr/\f t q n d tr=some r:=by
 unfold oaO at h
 split at h
 ·exact⟨_,_,_,_,_,rfl,h⟩
 ·cases h
theorem zs0 {c:MC} {tbl:Nat->Option Ent} (ht:∀ q e,tbl q=some e->zfl P c E q e) {F:Nat} {l:List V} {h:H} {fa:Fa} (hfa:FaOk E fa) {x:AR} (ha:zml c tbl F l h fa=some x) :
  j6 P F/\x.v.bd 1/\∀ ρ w,Sat E ρ h w->Calls P F (γL E ρ l).toArray w fun e w'=>e=.returned (x.v.γ E ρ)/\Sat E ρ (h.two x.m x.id x.om x.oi) w'/\Ext ρ h w ρ (h.two x.m x.id x.om x.oi) w':=by
 unfold zml at ha
 cases l with
 | nil=>cases ha
 | cons a r=>
 obtain⟨m,hm0,ha1⟩:∃ m,a=.ptr m 0/\mt1 c tbl F h fa r m=some x:=by
  have ha2:za6 (some a) (fun m off=>bc (Nat.beq off 0) (mt1 c tbl F h fa r m) none) none=some x:=ha
  clear ha
  cases a <;> first | (cases ha2;done) | skip
  rename_i m off
  obtain⟨h1,h2⟩:=zbM (show bc (Nat.beq off 0) (mt1 c tbl F h fa r m) none=some x from ha2)
  have h1:off=0:=by simpa using h1
  rw[h1]
  exact⟨m,rfl,h2⟩
 clear ha
 subst hm0
 unfold mt1 at ha1
 obtain⟨hmm,ha2⟩:=zbM ha1
 obtain⟨om0,hom,ha3⟩:=zai ha2
 rw[yk]at hom
 obtain⟨tm,id,n,n',stv,st,e0,ha4,hst⟩:=zo9 ha3
 obtain⟨hb,ha5⟩:=zbM ha4
 simp only[Bool.and_eq_true,Nat.beq_eq]at hb
 obtain⟨⟨⟨e1,e2⟩,e3⟩,hmi⟩:=hb
 obtain⟨oi0,hoi,ha6⟩:=zai ha5
 rw[yk]at hoi
 obtain⟨ta,q,n2,d,tr,e4,ha7⟩:=oaO_ok ha6
 obtain⟨hb,ha8⟩:=zbM ha7
 simp only[Bool.and_eq_true,Nat.beq_eq]at hb
 obtain⟨⟨⟨e5,e6⟩,e7⟩,e8⟩:=hb
 obtain⟨e,he,ha9⟩:=zai ha8
 have e8:tr=.nil:=by cases tr <;> first | rfl | (cases e8;done)
 clear ha1 ha2 ha3 ha4 ha5 ha6 ha7 ha8
 subst e0 e1 e2 e3 e4 e5 e6 e7 e8
 unfold mt2 at ha9
 obtain⟨hb,ha9⟩:=zbM ha9
 simp only[Bool.and_eq_true,Nat.beq_eq]at hb
 obtain⟨⟨⟨g1,g2⟩,g3⟩,g4⟩:=hb
 have ha9:=Option.some.inj ha9
 subst ha9
 have g2:=jX g2
 subst g1 g2
 have hv1:e.v.bd 1:=zc2 (n:=.h) _ g4
 obtain⟨f,f',k0,hk1,hkd,hw,hw',hc⟩:=ht q e he
 have hne:m≠id:=by
  intro e
  subst e
  rw[hom]at hoi
  cases hoi
 refine⟨(hc (fun _=>⟨0,0⟩)).1,hv1,fun ρ w hs=>?_⟩
 obtain⟨hn13,cs,hcs,hsz,_,hcell⟩:=hs.obj id _ hoi
 have hmem:w.heap[(ρ m).b]? = some (.cells #[.slice (some ⟨(ρ id).b,0,none⟩) c.N c.N,stv.γ E ρ] c.tM (0,0)):=hs.obj m _ hom
 have hbne:(ρ m).b≠(ρ id).b:=fun h=>hne (hs.inj m id _ _ hom hoi rfl rfl h)
 have hat:MemAt c w (ρ m).b (ρ id).b f (st.den E):=⟨hbne,by rw[hmem,hst],cs,hcs,hsz,fun i hi=>by
  rw[hcell i hi]
  unfold zdq
  rw[Tr.get_nil]
  exact hw.2 i hi⟩
 refine((hc ρ).2 w _ _ _ hat).mono ?_
 rintro ex w' ⟨he,⟨_,am,cs',acs,aws⟩,hk⟩
 obtain⟨s1,s2⟩:=stE_γ hfa st e.k ρ
 have hst0:za9 (st.den E) k0=arS .add .i64 (st.den E) (e.k.den E):=by unfold za9;rw[if_neg (by omega),hkd]
 refine⟨he,?_⟩
 refine zoP hs hom hoi rfl rfl hne (zak h m hmm) (zak h id hmi) ?_ ?_ ?_ ?_ hk.os hk.tape hk.output hk.size hk.keep
 ·show w'.heap[(ρ m).b]? = some (.cells (γL E ρ [.sl id 0 c.N c.N,stE fa st e.k]).toArray c.tM (0,0))
  rw[am,hst0]
  simp only[γL,s1]
  rfl
 ·refine⟨hn13,cs',acs,aws.1,hw'.1,fun i hi=>?_⟩
  rw[aws.2 i hi]
  unfold zdq
  rw[Tr.get_nil]
  exact(hw'.2 i hi).symm
 ·exact⟨(hs.bd id _ hoi).1,bd_mono (Nat.zero_le _) _ s2,trivial⟩
 ·exact fun i v _ hv=>by rw[Tr.get_nil]at hv;cases hv
theorem mtH_ok {c:MC} {tbl:Nat->Option Ent} (ht:∀ q e,tbl q=some e->zfl P c E q e) {inner:z3} (hi:zk E P inner):zk E P (mtH c tbl inner):=by
 intro F l h fa k hk hfa
 have hk:oc (zml c tbl F l h fa) (fun x=>x.go (fun m id om oi v=>hc h (fun n lo t=>zbg m t om (fun t=>zbg id t oi (fun t=>k v ⟨n,lo,t⟩ fa))))) (inner F l h fa k)=0:=hk
 cases ha:zml c tbl F l h fa with
 | none=>
  rw[ha]at hk
  exact hi F l h fa k hk hfa
 | some x=>
  rw[ha]at hk
  obtain⟨hca,hbv,zr⟩:=zs0 ht hfa ha
  cases x with
  | mk m id om oi v=>
  have hk:hc h (fun n lo t=>zbg m t om (fun t=>zbg id t oi (fun t=>k v ⟨n,lo,t⟩ fa)))=0:=hk
  rw[zbA,zaP,zaP]at hk
  refine⟨hca,v,h.two m id om oi,fa,hk,hfa,fun ρ w hb hs=>(zr ρ w hs).mono ?_⟩
  rintro e w' ⟨he,hs',hx'⟩
  exact⟨ρ,he,hs',hx',bd_mono (Ev.P.toNat_pos _) v hbv⟩
def hMem (c:MC) (q:Nat) (tr:Tr V):H:=⟨.i .h,.h,((PT.e:PT O).set .h (.oa c.tA q c.N 13 tr)).set (.o .h) (.cells c.tM [.sl .h 0 c.N c.N,.si .i64 (.v 5)])⟩
def okM (c:MC) (v:V) (q':Nat) (tr':Tr V) (sE:SE):K:=fun u h _=>bc (V.beq u v) (bc (zcj (h.t.get .h) (some (.oa c.tA q' c.N 13 tr'))) (bc (zcj (h.t.get (.o .h)) (some (.cells c.tM [.sl .h 0 c.N c.N,.si .i64 sE]))) 0 1) 1) 1
def ovIs (E:Env) (q N:Nat) (tr:Tr V) (f:Nat->Int):Prop:=(E.s q).cs.size=N/\∀ (ρ:Rho) i,i<N->zdq E (E.s q).cs tr 13 ρ i=some (.int .u64 (f i))
theorem zcC {q N:Nat} {f:Nat->Int} (h:yo (E.s q).cs N f):ovIs E q N .nil f:=⟨h.1,fun ρ i hi=>by unfold zdq;rw[Tr.get_nil];exact h.2 i hi⟩
theorem zdy {c:MC} {q:Nat} {tr:Tr V} {p:Ev.P} {o:O} (h:(hMem c q tr).t.get p=some o):(p=.h/\o=.oa c.tA q c.N 13 tr)\/(p=.o .h/\o=.cells c.tM [.sl .h 0 c.N c.N,.si .i64 (.v 5)]):=by
 have h:(((PT.e:PT O).set .h (.oa c.tA q c.N 13 tr)).set (.o .h) (.cells c.tM [.sl .h 0 c.N c.N,.si .i64 (.v 5)])).get p=some o:=h
 by_cases e:p=.o .h
 ·subst e
  rw[PT.get_set_same]at h
  exact .inr ⟨rfl,(Option.some.inj h).symm⟩
 ·rw[PT.get_set_other _ _ _ _ (fun h=>e h.symm)]at h
  by_cases e2:p=.h
  ·subst e2
   rw[PT.get_set_same]at h
   exact .inl ⟨rfl,(Option.some.inj h).symm⟩
  ·rw[PT.get_set_other _ _ _ _ (fun h=>e2 h.symm),PT.get_e]at h
   cases h
theorem zck {c:MC} (hN:c.N<=8192) {F:Nat} {call:z3} {l:List V} {v:V} {q q' k:Nat} {sE:SE} {tr tr':Tr V} {fa:Fa} {f f':Nat->Int} {args:List Value} {ret:Value} (hl:bdL 1 l) (htr:∀ i v,i<2 ^ 13->tr.get 13 i=some v->v.bd 1)
  (hE:∀ st:Int,∃ E:Env,E.i 5=st/\sE.den E=za9 st k/\zk E P call/\FaOk E fa/\ovIs E q c.N tr f/\ovIs E q' c.N tr' f'/\(∀ ρ,γL E ρ l=args)/\∀ ρ,v.γ E ρ=ret)
  (hr:call F (.ptr (.o .h) 0::l) (hMem c q tr) fa (okM c v q' tr' sE)=0):zaO P c F args f ret f' k:=by
 refine⟨?_,fun w bm ba st hat=>?_⟩
 ·obtain⟨E,_,_,hc,hfa,_⟩:=hE 0
  exact(hc _ _ _ _ _ hr hfa).1
 obtain⟨E,h5,hsE,hc,hfa,ho,ho',hargs,hret⟩:=hE st
 obtain⟨_,v0,h0,fa0,hk0,_,zr⟩:=hc _ _ _ _ _ hr hfa
 unfold okM at hk0
 obtain⟨q1,hk0⟩:=zK hk0 (by simp)
 obtain⟨q2,hk0⟩:=zK hk0 (by simp)
 obtain⟨q3,_⟩:=zK hk0 (by simp)
 have q1:=V.beq_ok q1
 have q2:=zby q2
 have q3:=zby q3
 subst q1
 obtain⟨ρ,hρ⟩:∃ ρ:Rho,ρ=fun p=>match p with | .h=>⟨ba,0⟩ | _=>⟨bm,0⟩:=⟨_,rfl⟩
 have hρ1:ρ .h=⟨ba,0⟩:=by rw[hρ]
 have hρ2:ρ (.o .h)=⟨bm,0⟩:=by rw[hρ]
 obtain⟨hne,hm,cs,hcs,hws⟩:=hat
 have hsat:Sat E ρ (hMem c q tr) w:=by
  refine⟨fun p o hp=>?_,fun p q o o' hp hq _ _ hh=>?_,fun p o hp=>?_⟩
  ·rcases zdy hp with ⟨rfl,rfl⟩ | ⟨rfl,rfl⟩
   ·rw[hρ1]
    exact⟨by omega,cs,hcs,hws.1,ho.1,fun i hi=>by rw[ho.2 ρ i hi,hws.2 i hi]⟩
   ·rw[hρ2]
    show w.heap[bm]? = some (.cells (γL E ρ [.sl .h 0 c.N c.N,.si .i64 (.v 5)]).toArray c.tM (0,0))
    rw[hm]
    simp only[γL,V.γ,hρ1,SE.den,h5]
  ·rcases zdy hp with ⟨rfl,rfl⟩ | ⟨rfl,rfl⟩ <;> rcases zdy hq with ⟨rfl,rfl⟩ | ⟨rfl,rfl⟩
   ·rfl
   ·rw[hρ1,hρ2]at hh;exact absurd hh.symm hne
   ·rw[hρ1,hρ2]at hh;exact absurd hh hne
   ·rfl
  ·rcases zdy hp with ⟨rfl,rfl⟩ | ⟨rfl,rfl⟩
   ·exact⟨by show (1:Nat)<3;decide,fun i v hi hv=>bd_mono (by show (1:Nat)<=3;decide) v (htr i v hi hv)⟩
   ·exact⟨by show (2:Nat)<3;decide,by show (1:Nat)<3;decide,trivial,trivial⟩
 have hbd:bdL (hMem c q tr).n.toNat (.ptr (.o .h) 0::l):=⟨by show (2:Nat)<3;decide,j3 (by show (1:Nat)<=3;decide) _ hl⟩
 have zr:=zr ρ w hbd hsat
 have hγ:γL E ρ (.ptr (.o .h) 0::l)=Value.pointer (some ⟨bm,0,none⟩)::args:=by
  show V.γ E ρ (.ptr (.o .h) 0)::γL E ρ l=_
  rw[hargs]
  simp only[V.γ,hρ2]
 rw[hγ]at zr
 refine zr.mono ?_
 rintro e w' ⟨ρ2,he,hs',hx',_⟩
 have a1:ρ2 .h=⟨ba,0⟩:=by rw[hx'.agree .h (by show (1:Nat)<3;decide),hρ1]
 have a2:ρ2 (.o .h)=⟨bm,0⟩:=by rw[hx'.agree (.o .h) (by show (2:Nat)<3;decide),hρ2]
 refine⟨by rw[he,hret],?_,hx'.os,hx'.tape,hx'.output,hx'.size,fun b hb n1 n2=>hx'.keep b hb fun p o hp _ _=>?_⟩
 ·have i1:=hs'.obj .h _ q2
  have i2:=hs'.obj (.o .h) _ q3
  rw[a1]at i1
  rw[a2]at i2
  obtain⟨_,cs',k1,k2,k3,k4⟩:=i1
  refine⟨hne,?_,cs',k1,k2,fun i hi=>by rw[k4 i hi,ho'.2 ρ2 i hi]⟩
  have i2:w'.heap[bm]? = some (.cells (γL E ρ2 [.sl .h 0 c.N c.N,.si .i64 sE]).toArray c.tM (0,0)):=i2
  rw[i2]
  simp only[γL,V.γ,a1,hsE]
 ·rcases zdy hp with ⟨rfl,rfl⟩ | ⟨rfl,rfl⟩
  ·rw[hρ1];exact fun e=>n2 e.symm
  ·rw[hρ2];exact fun e=>n1 e.symm
end Go.Ev
end
set_option linter.unusedSimpArgs false
set_option linter.unusedVariables false
noncomputable section
namespace Go.Ev
open Go
variable {E E':Env} {P:Program}
def upd (f:Nat->Int) (a:Nat) (x:Int):Nat->Int:=fun i=>if i=a then x else f i
theorem za7 (f:Nat->Int) (a:Nat) (x:Int):upd f a x a=x:=if_pos rfl
theorem zY (f:Nat->Int) {a i:Nat} (x:Int) (h:i≠a):upd f a x i=f i:=if_neg h
theorem zgU (f:Nat->Int) (a:Nat):upd f a (f a)=f:=funext fun i=>by unfold upd;split <;> simp_all
theorem jT (f:Nat->Int) (a:Nat) {x:Int} (h:x=f a):upd f a x=f:=by rw[h,zgU]
theorem zeB (f:Nat->Int) {a b:Nat} (x y:Int) (h:a≠b):upd (upd f a x) b y=upd (upd f b y) a x:=funext fun i=>by
 unfold upd
 by_cases h1:i=a
 ·by_cases h2:i=b
  ·exact absurd (h1.symm.trans h2) h
  ·simp[h1,h]
 ·simp[h1]
def RS.u64:RS->Bool
 | .i k _=>kEq k .u64
 | .s k _=>kEq k .u64
 | _=>false
def RS.num (E:Env):RS->Int
 | .i _ n=>n
 | .s _ e=>e.den E
 | _=>0
theorem RS.num_ok {r:RS} (h:r.u64=true) (ρ:Rho):r.v.γ E ρ=.int .u64 (r.num E):=by
 cases r with
 | i k n=>rw[show (RS.i k n).v=.i k n from rfl,yG (show kEq k .u64=true from h)];rfl
 | s k e=>rw[show (RS.s k e).v=.si k e from rfl,yG (show kEq k .u64=true from h)];rfl
 | b x=>cases h
 | c d=>cases h
def wrI (E:Env):List (Nat × RS)->(Nat->Int)->(Nat->Int)
 | [],f=>f
 | (a,v)::r,f=>wrI E r (upd f a (v.num E))
theorem ovIs_rd {q N:Nat} (hN:N<=8192) {f:Nat->Int} (hq:yo (E.s q).cs N f) {l:List (Nat × Nat)} (hl:∀ p∈l,p.1<8192) (hs:∀ p∈l,E.i p.2=f p.1):ovIs E q N (zd0 l) f:=by
 refine⟨hq.1,fun ρ i hi=>?_⟩
 unfold zdq
 cases e:(zd0 l).get 13 i with
 | none=>exact hq.2 i hi
 | some v=>
  obtain⟨y,g1,rfl⟩:=zcx (by omega) hl e
  show some (Value.int .u64 (E.i y))=_
  rw[hs _ g1]
theorem zo2 {q N:Nat} (hN:N<=8192):∀ {l:List (Nat × RS)} {tr:Tr V} {f:Nat->Int},(∀ p∈l,p.1<8192/\p.2.u64=true)->ovIs E q N tr f->ovIs E q N (trWr tr l) (wrI E l f)
 | [],tr,f,_,h=>h
 | (a,v)::r,tr,f,hl,h=>by
  have h1:=hl _ (List.mem_cons_self ..)
  refine zo2 hN (l:=r) (tr:=tr.set 13 a v.v) (f:=upd f a (v.num E)) (fun p hp=>hl p (List.mem_cons_of_mem _ hp)) ⟨h.1,fun ρ i hi=>?_⟩
  have h2:=h.2 ρ i hi
  unfold zdq at h2 ⊢
  rw[Tr.get_set 13 _ _ _ _ h1.1 (by show i<8192;omega)]
  unfold upd
  by_cases e:i=a
  ·rw[if_pos e,if_pos e]
   show some _=_
   rw[RS.num_ok h1.2 ρ]
  ·rw[if_neg e,if_neg e]
   exact h2
theorem zbq {c:MC} {F:Nat} {zN:z3} {s:Sm} (hwf:s.wf c=true) (hu:zW (fun p:Nat × RS=>p.2.u64) s.wr=true) (hr:s.run c F zN=0) {f f':Nat->Int} {args:List Value} {ret:Value}
  (hE:∀ st:Int,∃ E:Env,E.i 5=st/\zk E P zN/\FaOk E ⟨s.fa,[]⟩/\yo (E.s 7).cs c.N f/\(∀ p∈s.rd,E.i p.2=f p.1)/\(wrI E s.wr f=f')/\(∀ ρ,γL E ρ (zgh PA.v s.l)=args)/\∀ ρ,s.v.v.γ E ρ=ret):zaO P c F args f ret f' s.st:=by
 unfold Sm.wf at hwf
 simp only[Bool.and_eq_true]at hwf
 obtain⟨⟨hN,hrd⟩,hwr⟩:=hwf
 have hN:c.N<=8192:=by simpa using hN
 have hrd:∀ q∈s.rd,q.1<c.N:=fun q hq=>by simpa using zt hrd q hq
 have hwr:∀ q∈s.wr,q.1<c.N:=fun q hq=>by simpa using zt hwr q hq
 have hrd2:∀ q∈s.rd,q.1<8192:=fun q hq=>by have:=hrd q hq;omega
 refine zck (q:=7) (q':=7) (tr:=zd0 s.rd) (tr':=trWr (zd0 s.rd) s.wr) hN (j3 (Nat.zero_le _) _ (zhA s.l)) (fun i v hi hv=>by
  obtain⟨y,_,rfl⟩:=zcx hi hrd2 hv
  exact trivial) (fun st=>?_) hr
 obtain⟨E,h5,hc,hfa,h7,hs,hw,ha,hv⟩:=hE st
 have h1:=ovIs_rd hN h7 hrd2 hs
 refine⟨E,h5,by rw[stP_den,h5],hc,hfa,h1,?_,ha,hv⟩
 rw[<- hw]
 exact zo2 hN (fun p hp=>⟨by have:=hwr p hp;omega,zt hu p hp⟩) h1
theorem fld_val {w:Int} (a n:Nat) {M:Int} (hM:M=(2 ^ n - 1)*2 ^ a) (ha:a+n<=64) (h0:0<=w) (h1:w<18446744073709551616):arS .shr .u64 (arS .and .u64 w M) (a:Int)=w / 2 ^ a % 2 ^ n:=by
 obtain⟨x,rfl⟩:=Int.eq_ofNat_of_zero_le h0
 have hp:0<2 ^ n:=Nat.two_pow_pos n
 have hq:0<2 ^ a:=Nat.two_pow_pos a
 have hlt:(2 ^ n - 1)*2 ^ a<18446744073709551616:=by
  have h:2 ^ n*2 ^ a<=2 ^ 64:=by rw[<- Nat.pow_add];exact Nat.pow_le_pow_right (by omega) (by omega)
  have h2:(2 ^ n - 1)*2 ^ a<2 ^ n*2 ^ a:=Nat.mul_lt_mul_of_pos_right (by omega) hq
  have:(2:Nat) ^ 64=18446744073709551616:=by decide
  omega
 have e:M=(((2 ^ n - 1)*2 ^ a:Nat):Int):=by
  rw[hM,Int.natCast_mul,Int.natCast_sub (by omega)];simp
 rw[e,zpI x _ (by omega) hlt,zj6 a (by omega) (Int.natCast_nonneg _)]
 have:Nat.land x ((2 ^ n - 1)*2 ^ a) / 2 ^ a=x / 2 ^ a % 2 ^ n:=by
  show (x &&& ((2 ^ n - 1)*2 ^ a)) / 2 ^ a=_
  rw[<- Nat.shiftRight_eq_div_pow,Nat.shiftRight_and_distrib,Nat.shiftRight_eq_div_pow,Nat.shiftRight_eq_div_pow,Nat.mul_div_cancel _ hq,Nat.and_two_pow_sub_one_eq_mod]
 have h3:(((Nat.land x ((2 ^ n - 1)*2 ^ a) / 2 ^ a:Nat)):Int)=((x / 2 ^ a % 2 ^ n:Nat):Int):=by rw[this]
 simpa using h3
theorem zgG {e:SE} {w:Int} (a n:Nat) {M:Int} (hM:M=(2 ^ n - 1)*2 ^ a) (ha:a+n<=64) (he:e.den E=w) (h0:0<=w) (h1:w<18446744073709551616):SE.den E (.op .shr .u64 (.op .and .u64 e (.lit M)) (.lit (a:Int)))=w / 2 ^ a % 2 ^ n:=by
 show arS .shr .u64 (arS .and .u64 (e.den E) M) (a:Int)=_
 rw[he,fld_val a n hM ha h0 h1]
theorem zto {x a y:Nat} (hx:x<2 ^ a):Nat.land x (y*2 ^ a)=0:=by
 show x &&& (y*2 ^ a)=0
 apply Nat.eq_of_testBit_eq
 intro i
 rw[Nat.testBit_and,Nat.zero_testBit]
 by_cases h:a<=i
 ·rw[Nat.testBit_lt_two_pow (Nat.lt_of_lt_of_le hx (Nat.pow_le_pow_right (by decide) h))];rfl
 ·rw[Nat.testBit_mul_two_pow];simp[h]
theorem pk_val {x v:Int} (a n:Nat) {M:Int} (hM:M=(2 ^ n - 1)*2 ^ a) (ha:a+n<=64) (h0:0<=x) (h1:x<2 ^ a) (v0:0<=v) (v1:v<2 ^ n) :
  arS .or .u64 (arS .andNot .u64 x M) (arS .shl .u64 v (a:Int))=x+v*2 ^ a:=by
 obtain⟨y,rfl⟩:=Int.eq_ofNat_of_zero_le h0
 obtain⟨u,rfl⟩:=Int.eq_ofNat_of_zero_le v0
 have hq:0<2 ^ a:=Nat.two_pow_pos a
 have h64:(2:Nat) ^ 64=18446744073709551616:=by decide
 have hp:0<2 ^ n:=Nat.two_pow_pos n
 have c1:((2 ^ a:Nat):Int)=2 ^ a:=by simp
 have c2:((2 ^ n:Nat):Int)=2 ^ n:=by simp
 have hy:y<2 ^ a:=by omega
 have hu:u<2 ^ n:=by omega
 have hmul:2 ^ n*2 ^ a<=18446744073709551616:=by rw[<- h64,<- Nat.pow_add];exact Nat.pow_le_pow_right (by omega) (by omega)
 have hle:2 ^ a<=18446744073709551616:=by rw[<- h64];exact Nat.pow_le_pow_right (by omega) (by omega)
 have hua:u*2 ^ a+2 ^ a<=2 ^ n*2 ^ a:=by
  have:(u+1)*2 ^ a<=2 ^ n*2 ^ a:=Nat.mul_le_mul_right _ hu
  rw[Nat.add_mul,Nat.one_mul]at this;exact this
 have hlt:(2 ^ n - 1)*2 ^ a<18446744073709551616:=by
  have h2:(2 ^ n - 1)*2 ^ a<2 ^ n*2 ^ a:=Nat.mul_lt_mul_of_pos_right (by omega) hq
  omega
 have e:M=(((2 ^ n - 1)*2 ^ a:Nat):Int):=by
  rw[hM,Int.natCast_mul,Int.natCast_sub (by omega)];simp
 have e2:(u:Int)*2 ^ a=((u*2 ^ a:Nat):Int):=by simp
 rw[e,zew y _ (by omega) hlt,zto hy]
 have:Nat.xor y 0=y:=Nat.xor_zero y
 rw[this,zeJ a (by omega) (Int.natCast_nonneg u) (by rw[e2];omega),e2,zh4 y _ (by omega) (by omega)]
 have h3:Nat.lor y (u*2 ^ a)=y+u*2 ^ a:=by
  show y ||| (u*2 ^ a)=_
  rw[Nat.or_comm,Nat.mul_comm,Nat.add_comm]
  exact(Nat.two_pow_add_eq_or_of_lt hy u).symm
 rw[h3];simp
theorem pk_in {v:Int} (a n:Nat) {M:Int} (hM:M=(2 ^ n - 1)*2 ^ a) (ha:a+n<=64) (v0:0<=v) (v1:v<2 ^ n):arS .andNot .u64 (arS .shl .u64 v (a:Int)) M=0/\arS .shr .u64 (arS .shl .u64 v (a:Int)) (a:Int)=v:=by
 obtain⟨u,rfl⟩:=Int.eq_ofNat_of_zero_le v0
 have hq:0<2 ^ a:=Nat.two_pow_pos a
 have h64:(2:Nat) ^ 64=18446744073709551616:=by decide
 have hp:0<2 ^ n:=Nat.two_pow_pos n
 have c1:((2 ^ a:Nat):Int)=2 ^ a:=by simp
 have c2:((2 ^ n:Nat):Int)=2 ^ n:=by simp
 have hu:u<2 ^ n:=by omega
 have hmul:2 ^ n*2 ^ a<=18446744073709551616:=by rw[<- h64,<- Nat.pow_add];exact Nat.pow_le_pow_right (by omega) (by omega)
 have hua:u*2 ^ a+2 ^ a<=2 ^ n*2 ^ a:=by
  have:(u+1)*2 ^ a<=2 ^ n*2 ^ a:=Nat.mul_le_mul_right _ hu
  rw[Nat.add_mul,Nat.one_mul]at this;exact this
 have hlt:(2 ^ n - 1)*2 ^ a<18446744073709551616:=by
  have h2:(2 ^ n - 1)*2 ^ a<2 ^ n*2 ^ a:=Nat.mul_lt_mul_of_pos_right (by omega) hq
  omega
 have e:M=(((2 ^ n - 1)*2 ^ a:Nat):Int):=by
  rw[hM,Int.natCast_mul,Int.natCast_sub (by omega)];simp
 have e2:(u:Int)*2 ^ a=((u*2 ^ a:Nat):Int):=by simp
 rw[zeJ a (by omega) (Int.natCast_nonneg u) (by rw[e2];omega)]
 refine⟨?_,?_⟩
 ·rw[e,e2,zew _ _ (by omega) hlt]
  have h3:Nat.land (u*2 ^ a) ((2 ^ n - 1)*2 ^ a)=u*2 ^ a:=by
   show (u*2 ^ a) &&& ((2 ^ n - 1)*2 ^ a)=_
   rw[<- Nat.shiftLeft_eq,<- Nat.shiftLeft_eq,<- Nat.shiftLeft_and_distrib,Nat.and_two_pow_sub_one_eq_mod,Nat.mod_eq_of_lt hu]
  rw[h3]
  have:Nat.xor (u*2 ^ a) (u*2 ^ a)=0:=Nat.xor_self _
  rw[this];rfl
 ·rw[zj6 a (by omega) (by rw[e2];exact Int.natCast_nonneg _)]
  exact Int.mul_ediv_cancel _ (by have:(0:Int)<2 ^ a:=Int.pow_pos (by omega);omega)
end Go.Ev
end
set_option linter.unusedSimpArgs false
set_option linter.unusedVariables false
noncomputable section
namespace Go.Ev
open Go
variable {E E':Env} {P:Program}
structure TV where
 st:Int
 pr:Int
 sl:Int
 q:Bool
 pv:Int
 nx:Int
 bl:Int
 bd:Int
 g:Bool
 c:Bool
 bo:Int
 ha:Int
 fk:Int
 fa:Int
def b2 (x:Bool):Int:=match x with
 | true=>1
 | false=>0
theorem zbO (x:Bool):0<=b2 x/\b2 x<=1:=by cases x <;> decide
def TV.w0 (v:TV):Int:=v.st+v.pr*8+v.sl*2048+b2 v.q*16384+b2 v.g*32768+b2 v.c*65536+v.fk*131072
def TV.w1 (v:TV):Int:=v.pv+v.nx*65536+v.bl*4294967296+v.bo*281474976710656
def TV.w2 (v:TV):Int:=v.bd
def TV.w3 (v:TV):Int:=v.ha+v.fa*4294967296
structure TV.Right (v:TV):Prop where
 st:0<=v.st/\v.st<=5
 pr:0<=v.pr/\v.pr<256
 sl:0<=v.sl/\v.sl<=5
 pv:0<=v.pv/\v.pv<65536
 nx:0<=v.nx/\v.nx<65536
 bl:0<=v.bl/\v.bl<65536
 bd:0<=v.bd/\v.bd<268435456
 bo:0<=v.bo/\v.bo<65536
 ha:0<=v.ha/\v.ha<4294967296
 fk:0<=v.fk/\v.fk<4
 fa:0<=v.fa/\v.fa<4294967296
def zkI (a b c d:Int):TV:=⟨a % 8,a / 8 % 256,a / 2048 % 8,decide (a / 16384 % 2=1),b % 65536,b / 65536 % 65536,b / 4294967296 % 65536,c % 268435456,decide (a / 32768 % 2=1),decide (a / 65536 % 2=1),
 b / 281474976710656 % 65536,d % 4294967296,a / 131072 % 4,d / 4294967296 % 4294967296⟩
def za (f:Nat->Int) (t:Nat):TV:=zkI (f (t+16)) (f (t+17)) (f (t+18)) (f (t+19))
def zg (f:Nat->Int) (t:Nat) (v:TV):Nat->Int:=upd (upd (upd (upd f (t+16) v.w0) (t+17) v.w1) (t+18) v.w2) (t+19) v.w3
structure RightAt (f:Nat->Int) (t:Nat):Prop where
 a:0<=f (t+16)/\f (t+16)<524288
 b:0<=f (t+17)/\f (t+17)<18446744073709551616
 c:0<=f (t+18)/\f (t+18)<268435456
 d:0<=f (t+19)/\f (t+19)<18446744073709551616
 st:f (t+16) % 8<=5
 sl:f (t+16) / 2048 % 8<=5
theorem zoz {x:Int} (h:0<=x/\x<=1):b2 (decide (x=1))=x:=by
 by_cases e:x=1
 ·rw[decide_eq_true e];exact e.symm
 ·rw[decide_eq_false e];show (0:Int)=x;omega
theorem zh {f:Nat->Int} {t:Nat} (h:RightAt f t):(za f t).Right:=by
 obtain⟨a,b,c,d,st,sl⟩:=h
 refine⟨⟨?_,st⟩,?_,⟨?_,sl⟩,?_,?_,?_,?_,?_,?_,?_,?_⟩ <;> simp only[za,zkI] <;> omega
theorem getW_w {v:TV} (h:v.Right):zkI v.w0 v.w1 v.w2 v.w3=v:=by
 obtain⟨st,pr,sl,q,pv,nx,bl,bd,g,c,bo,ha,fk,fa⟩:=v
 obtain⟨h1,h2,h3,h4,h5,h6,h7,h8,h9,h10,h11⟩:=h
 simp only at h1 h2 h3 h4 h5 h6 h7 h8 h9 h10 h11
 have e1:=zbO q
 have e2:=zbO g
 have e3:=zbO c
 have d1:∀ x:Bool,decide (b2 x=1)=x:=by intro x;cases x <;> rfl
 have t1:(st+pr*8+sl*2048+b2 q*16384+b2 g*32768+b2 c*65536+fk*131072) / 16384 % 2=b2 q:=by omega
 have t2:(st+pr*8+sl*2048+b2 q*16384+b2 g*32768+b2 c*65536+fk*131072) / 32768 % 2=b2 g:=by omega
 have t3:(st+pr*8+sl*2048+b2 q*16384+b2 g*32768+b2 c*65536+fk*131072) / 65536 % 2=b2 c:=by omega
 simp only[zkI,TV.w0,TV.w1,TV.w2,TV.w3,t1,t2,t3,d1,TV.mk.injEq,true_and,and_true]
 refine⟨?_,?_,?_,?_,?_,?_,?_,?_,?_,?_,?_⟩ <;> omega
theorem w_getW {a b c d:Int} (ha:0<=a/\a<524288) (hb:0<=b/\b<18446744073709551616) (hc:0<=c/\c<268435456) (hd:0<=d/\d<18446744073709551616) :
  (zkI a b c d).w0=a/\(zkI a b c d).w1=b/\(zkI a b c d).w2=c/\(zkI a b c d).w3=d:=by
 simp only[zkI,TV.w0,TV.w1,TV.w2,TV.w3]
 rw[zoz (by omega),zoz (by omega),zoz (by omega)]
 refine⟨?_,?_,?_,?_⟩ <;> omega
theorem zoN (f:Nat->Int) (t:Nat) (v:TV):zg f t v (t+16)=v.w0/\zg f t v (t+17)=v.w1/\zg f t v (t+18)=v.w2/\zg f t v (t+19)=v.w3:=by
 unfold zg upd
 refine⟨?_,?_,?_,?_⟩ <;> simp
theorem ze (f:Nat->Int) {t i:Nat} (v:TV) (h:i<t+16\/t+20<=i):zg f t v i=f i:=by
 unfold zg upd
 rw[if_neg (by omega),if_neg (by omega),if_neg (by omega),if_neg (by omega)]
theorem zap {f:Nat->Int} {t:Nat} {v:TV} (h:v.Right):za (zg f t v) t=v:=by
 obtain⟨a,b,c,d⟩:=zoN f t v
 unfold za
 rw[a,b,c,d,getW_w h]
theorem w_lt {v:TV} (h:v.Right):(0<=v.w0/\v.w0<524288)/\(0<=v.w1/\v.w1<18446744073709551616)/\(0<=v.w2/\v.w2<268435456)/\(0<=v.w3/\v.w3<18446744073709551616)/\v.w0 % 8<=5/\v.w0 / 2048 % 8<=5:=by
 obtain⟨h1,h2,h3,h4,h5,h6,h7,h8,h9,h10,h11⟩:=h
 have e1:=zbO v.q
 have e2:=zbO v.g
 have e3:=zbO v.c
 simp only[TV.w0,TV.w1,TV.w2,TV.w3]
 refine⟨?_,?_,?_,?_,?_,?_⟩ <;> omega
theorem yZ {f:Nat->Int} {t:Nat} {v:TV} (h:v.Right):RightAt (zg f t v) t:=by
 obtain⟨a,b,c,d⟩:=zoN f t v
 obtain⟨g1,g2,g3,g4,g5,g6⟩:=w_lt h
 exact⟨by rw[a];exact g1,by rw[b];exact g2,by rw[c];exact g3,by rw[d];exact g4,by rw[a];exact g5,by rw[a];exact g6⟩
def zbf (t u:Nat):Prop:=t+64<=u\/u+64<=t
theorem jf {f:Nat->Int} {t u:Nat} {v:TV} (h:zbf t u):za (zg f t v) u=za f u:=by
 unfold zbf at h
 unfold za
 rw[ze f v (by omega),ze f v (by omega),ze f v (by omega),ze f v (by omega)]
theorem yh {f:Nat->Int} {t u:Nat} {v:TV} (h:zbf t u) (hr:RightAt f u):RightAt (zg f t v) u:=by
 unfold zbf at h
 obtain⟨a,b,c,d,e,g⟩:=hr
 refine⟨?_,?_,?_,?_,?_,?_⟩ <;> rw[ze f v (by omega)] <;> assumption
theorem ziY {f:Nat->Int} {t:Nat} (h:RightAt f t):zg f t (za f t)=f:=by
 obtain⟨e1,e2,e3,e4⟩:=w_getW h.a h.b h.c h.d
 unfold zg za
 rw[e1,e2,e3,e4,zgU,zgU,zgU,zgU]
theorem zhf (f:Nat->Int) (t:Nat) (v u:TV):zg (zg f t v) t u=zg f t u:=funext fun i=>by
 by_cases h1:i<t+16\/t+20<=i
 ·rw[ze _ _ h1,ze _ _ h1,ze _ _ h1]
 ·unfold zg upd
  have:i=t+16\/i=t+17\/i=t+18\/i=t+19:=by omega
  rcases this with rfl | rfl | rfl | rfl <;> simp
theorem zfs (f:Nat->Int) {t u:Nat} (v x:TV) (h:zbf t u):zg (zg f t v) u x=zg (zg f u x) t v:=funext fun i=>by
 unfold zbf at h
 by_cases h1:i<t+16\/t+20<=i
 ·rw[ze (zg f u x) v h1]
  by_cases h2:i<u+16\/u+20<=i
  ·rw[ze _ _ h2,ze _ _ h2,ze _ _ h1]
  ·unfold zg upd
   have:i=u+16\/i=u+17\/i=u+18\/i=u+19:=by omega
   rcases this with rfl | rfl | rfl | rfl <;> simp
 ·have h2:i<u+16\/u+20<=i:=by omega
  rw[ze (zg f t v) x h2]
  unfold zg upd
  have:i=t+16\/i=t+17\/i=t+18\/i=t+19:=by omega
  rcases this with rfl | rfl | rfl | rfl <;> simp
theorem zr0 (f:Nat->Int) {t a:Nat} (v:TV) (x:Int) (h:a<t+16\/t+20<=a):zg (upd f a x) t v=upd (zg f t v) a x:=by
 unfold zg
 rw[zeB f x _ (by omega),zeB _ x _ (by omega),zeB _ x _ (by omega),zeB _ x _ (by omega)]
theorem zbB (f:Nat->Int) {t a:Nat} (x:Int) (h:a<t+16\/t+20<=a):za (upd f a x) t=za f t:=by
 unfold za
 rw[zY _ _ (by omega),zY _ _ (by omega),zY _ _ (by omega),zY _ _ (by omega)]
theorem za2 {f:Nat->Int} {t a:Nat} (x:Int) (h:a<t+16\/t+20<=a) (hr:RightAt f t):RightAt (upd f a x) t:=by
 obtain⟨h1,h2,h3,h4,h5,h6⟩:=hr
 refine⟨?_,?_,?_,?_,?_,?_⟩ <;> rw[zY _ _ (by omega)] <;> assumption
def thV (v:TV) (r:Nat->Int):Value:=.agg #[.int .i64 v.st,.int .i64 v.pr,.int .i64 v.sl,.bool v.q,.int .i64 v.pv,.int .i64 v.nx,.int .i64 v.bl,.int .i64 v.bd,.bool v.g,.bool v.c,.int .i64 v.bo,.int .i64 v.ha,.int .i64 v.fk,.int .i64 v.fa,
 .int .u64 (r 0),.int .u64 (r 1),.int .u64 (r 2),.int .u64 (r 3),.int .u64 (r 4),.int .u64 (r 5),.int .u64 (r 6),.int .u64 (r 7),.int .u64 (r 8),.int .u64 (r 9),.int .u64 (r 10),.int .u64 (r 11),.int .u64 (r 12),.int .u64 (r 13),.int .u64 (r 14),.int .u64 (r 15)]
def zp (f:Nat->Int) (t:Nat):Nat->Int:=fun j=>f (t+32+j)
theorem zbc {e:SE} {w:Int} (a n:Nat) {A B M:Int} (hA:(2:Int) ^ a=A) (hB:(2:Int) ^ n=B) (hM:M=(B - 1)*A) (ha:a+n<=64) (hn:n<63) (he:e.den E=w) (h0:0<=w) (h1:w<18446744073709551616) :
  SE.den E (.cv .i64 (.op .shr .u64 (.op .and .u64 e (.lit M)) (.lit (a:Int))))=w / A % B:=by
 have h:=zgG (E:=E) a n (M:=M) (by rw[hA,hB];exact hM) ha he h0 h1
 rw[hA,hB]at h
 have hB':B<=4611686018427387904:=by
  have:(2:Int) ^ n<=2 ^ 62:=by
   have h2:(2:Nat) ^ n<=2 ^ 62:=Nat.pow_le_pow_right (by omega) (by omega)
   have e1:((2 ^ n:Nat):Int)=2 ^ n:=by simp
   have e2:((2 ^ 62:Nat):Int)=2 ^ 62:=by simp
   omega
  rw[hB]at this
  simpa using this
 have hp:0<B:=by rw[<- hB];exact Int.pow_pos (by omega)
 exact yf h (Int.emod_nonneg _ (by omega)) (by have:=Int.emod_lt_of_pos (w / A) hp;omega)
end Go.Ev
end
set_option linter.unusedSimpArgs false
set_option linter.unusedVariables false
set_option maxRecDepth 100000
noncomputable section
namespace Go.Ev
open Go
variable {E E':Env} {P:Program}
def thS (t:Nat):Sm:=⟨[(.one (.i .i64 (.ofNat t)))],[(t+16,100),(t+17,101),(t+18,102),(t+19,103),(t+32,104),(t+33,105),(t+34,106),(t+35,107),(t+36,108),(t+37,109),(t+38,110),(t+39,111),(t+40,112),(t+41,113),(t+42,114),(t+43,115),(t+44,116),(t+45,117),(t+46,118),(t+47,119)],[((.cmp .neq (.op .shr .u64 (.v 100) (.lit 19)) (.lit 0)),false),((.cmp .neq (.op .shr .u64 (.v 101) (.lit 64)) (.lit 0)),false),((.cmp .neq (.op .shr .u64 (.v 102) (.lit 28)) (.lit 0)),false),((.cmp .neq (.op .shr .u64 (.v 103) (.lit 64)) (.lit 0)),false),((.cmp .gtr (.cv .i64 (.op .shr .u64 (.op .and .u64 (.v 100) (.lit 7)) (.lit 0))) (.lit 5)),false),((.cmp .gtr (.cv .i64 (.op .shr .u64 (.op .and .u64 (.v 100) (.lit 14336)) (.lit 11))) (.lit 5)),false)],(.tup [(.agg [(.s .i64 (.cv .i64 (.op .shr .u64 (.op .and .u64 (.v 100) (.lit 7)) (.lit 0)))),(.s .i64 (.cv .i64 (.op .shr .u64 (.op .and .u64 (.v 100) (.lit 2040)) (.lit 3)))),(.s .i64 (.cv .i64 (.op .shr .u64 (.op .and .u64 (.v 100) (.lit 14336)) (.lit 11)))),(.c (.cmp .eql (.cv .i64 (.op .shr .u64 (.op .and .u64 (.v 100) (.lit 16384)) (.lit 14))) (.lit 1))),(.s .i64 (.cv .i64 (.op .shr .u64 (.op .and .u64 (.v 101) (.lit 65535)) (.lit 0)))),(.s .i64 (.cv .i64 (.op .shr .u64 (.op .and .u64 (.v 101) (.lit 4294901760)) (.lit 16)))),(.s .i64 (.cv .i64 (.op .shr .u64 (.op .and .u64 (.v 101) (.lit 281470681743360)) (.lit 32)))),(.s .i64 (.cv .i64 (.op .shr .u64 (.op .and .u64 (.v 102) (.lit 268435455)) (.lit 0)))),(.c (.cmp .eql (.cv .i64 (.op .shr .u64 (.op .and .u64 (.v 100) (.lit 32768)) (.lit 15))) (.lit 1))),(.c (.cmp .eql (.cv .i64 (.op .shr .u64 (.op .and .u64 (.v 100) (.lit 65536)) (.lit 16))) (.lit 1))),(.s .i64 (.cv .i64 (.op .shr .u64 (.op .and .u64 (.v 101) (.lit 18446462598732840960)) (.lit 48)))),(.s .i64 (.cv .i64 (.op .shr .u64 (.op .and .u64 (.v 103) (.lit 4294967295)) (.lit 0)))),(.s .i64 (.cv .i64 (.op .shr .u64 (.op .and .u64 (.v 100) (.lit 393216)) (.lit 17)))),(.s .i64 (.cv .i64 (.op .shr .u64 (.op .and .u64 (.v 103) (.lit 18446744069414584320)) (.lit 32)))),(.s .u64 (.v 104)),(.s .u64 (.v 105)),(.s .u64 (.v 106)),(.s .u64 (.v 107)),(.s .u64 (.v 108)),(.s .u64 (.v 109)),(.s .u64 (.v 110)),(.s .u64 (.v 111)),(.s .u64 (.v 112)),(.s .u64 (.v 113)),(.s .u64 (.v 114)),(.s .u64 (.v 115)),(.s .u64 (.v 116)),(.s .u64 (.v 117)),(.s .u64 (.v 118)),(.s .u64 (.v 119))]),(.one (.i .i64 0))]),[],20⟩
def stS (q g c:Bool) (t:Nat):Sm:=⟨[(.one (.i .i64 (.ofNat t))),(.agg [(.w .i64 10),(.w .i64 11),(.w .i64 12),(.b q),(.w .i64 13),(.w .i64 14),(.w .i64 15),(.w .i64 16),(.b g),(.b c),(.w .i64 17),(.w .i64 18),(.w .i64 19),(.w .i64 20),(.w .u64 21),(.w .u64 22),(.w .u64 23),(.w .u64 24),(.w .u64 25),(.w .u64 26),(.w .u64 27),(.w .u64 28),(.w .u64 29),(.w .u64 30),(.w .u64 31),(.w .u64 32),(.w .u64 33),(.w .u64 34),(.w .u64 35),(.w .u64 36)])],[],[((.cmp .lss (.v 10) (.lit 0)),false),((.cmp .lss (.v 11) (.lit 0)),false),((.cmp .lss (.v 12) (.lit 0)),false),((.cmp .lss (.v 19) (.lit 0)),false),((.cmp .neq (.op .shr .u64 (.op .shl .u64 (.cv .u64 (.v 10)) (.lit 0)) (.lit 0)) (.cv .u64 (.v 10))),false),((.cmp .neq (.op .andNot .u64 (.op .shl .u64 (.cv .u64 (.v 10)) (.lit 0)) (.lit 7)) (.lit 0)),false),((.cmp .neq (.op .shr .u64 (.op .shl .u64 (.cv .u64 (.v 11)) (.lit 3)) (.lit 3)) (.cv .u64 (.v 11))),false),((.cmp .neq (.op .andNot .u64 (.op .shl .u64 (.cv .u64 (.v 11)) (.lit 3)) (.lit 2040)) (.lit 0)),false),((.cmp .neq (.op .shr .u64 (.op .shl .u64 (.cv .u64 (.v 12)) (.lit 11)) (.lit 11)) (.cv .u64 (.v 12))),false),((.cmp .neq (.op .andNot .u64 (.op .shl .u64 (.cv .u64 (.v 12)) (.lit 11)) (.lit 14336)) (.lit 0)),false),((.cmp .neq (.op .shr .u64 (.op .shl .u64 (.cv .u64 (.v 19)) (.lit 17)) (.lit 17)) (.cv .u64 (.v 19))),false),((.cmp .neq (.op .andNot .u64 (.op .shl .u64 (.cv .u64 (.v 19)) (.lit 17)) (.lit 393216)) (.lit 0)),false),((.cmp .lss (.v 13) (.lit 0)),false),((.cmp .lss (.v 14) (.lit 0)),false),((.cmp .lss (.v 15) (.lit 0)),false),((.cmp .lss (.v 17) (.lit 0)),false),((.cmp .neq (.op .shr .u64 (.op .shl .u64 (.cv .u64 (.v 13)) (.lit 0)) (.lit 0)) (.cv .u64 (.v 13))),false),((.cmp .neq (.op .andNot .u64 (.op .shl .u64 (.cv .u64 (.v 13)) (.lit 0)) (.lit 65535)) (.lit 0)),false),((.cmp .neq (.op .shr .u64 (.op .shl .u64 (.cv .u64 (.v 14)) (.lit 16)) (.lit 16)) (.cv .u64 (.v 14))),false),((.cmp .neq (.op .andNot .u64 (.op .shl .u64 (.cv .u64 (.v 14)) (.lit 16)) (.lit 4294901760)) (.lit 0)),false),((.cmp .neq (.op .shr .u64 (.op .shl .u64 (.cv .u64 (.v 15)) (.lit 32)) (.lit 32)) (.cv .u64 (.v 15))),false),((.cmp .neq (.op .andNot .u64 (.op .shl .u64 (.cv .u64 (.v 15)) (.lit 32)) (.lit 281470681743360)) (.lit 0)),false),((.cmp .neq (.op .shr .u64 (.op .shl .u64 (.cv .u64 (.v 17)) (.lit 48)) (.lit 48)) (.cv .u64 (.v 17))),false),((.cmp .neq (.op .andNot .u64 (.op .shl .u64 (.cv .u64 (.v 17)) (.lit 48)) (.lit 18446462598732840960)) (.lit 0)),false),((.cmp .lss (.v 16) (.lit 0)),false),((.cmp .neq (.op .shr .u64 (.op .shl .u64 (.cv .u64 (.v 16)) (.lit 0)) (.lit 0)) (.cv .u64 (.v 16))),false),((.cmp .neq (.op .andNot .u64 (.op .shl .u64 (.cv .u64 (.v 16)) (.lit 0)) (.lit 268435455)) (.lit 0)),false),((.cmp .lss (.v 18) (.lit 0)),false),((.cmp .lss (.v 20) (.lit 0)),false),((.cmp .neq (.op .shr .u64 (.op .shl .u64 (.cv .u64 (.v 18)) (.lit 0)) (.lit 0)) (.cv .u64 (.v 18))),false),((.cmp .neq (.op .andNot .u64 (.op .shl .u64 (.cv .u64 (.v 18)) (.lit 0)) (.lit 4294967295)) (.lit 0)),false),((.cmp .neq (.op .shr .u64 (.op .shl .u64 (.cv .u64 (.v 20)) (.lit 32)) (.lit 32)) (.cv .u64 (.v 20))),false),((.cmp .neq (.op .andNot .u64 (.op .shl .u64 (.cv .u64 (.v 20)) (.lit 32)) (.lit 18446744069414584320)) (.lit 0)),false),((.cmp .leq (.v 10) (.lit 5)),true),((.cmp .leq (.v 12) (.lit 5)),true)],(.one (.one (.i .i64 0))),[(t+16,(.s .u64 (.op .or .u64 (.op .andNot .u64 (.op .or .u64 (.op .andNot .u64 (.op .or .u64 (.op .andNot .u64 (.op .or .u64 (.op .andNot .u64 (.op .or .u64 (.op .andNot .u64 (.op .or .u64 (.op .andNot .u64 (.op .or .u64 (.lit 0) (.op .shl .u64 (.cv .u64 (.v 10)) (.lit 0))) (.lit 2040)) (.op .shl .u64 (.cv .u64 (.v 11)) (.lit 3))) (.lit 14336)) (.op .shl .u64 (.cv .u64 (.v 12)) (.lit 11))) (.lit 16384)) (.lit (b2 q*16384))) (.lit 32768)) (.lit (b2 g*32768))) (.lit 65536)) (.lit (b2 c*65536))) (.lit 393216)) (.op .shl .u64 (.cv .u64 (.v 19)) (.lit 17))))),(t+17,(.s .u64 (.op .or .u64 (.op .andNot .u64 (.op .or .u64 (.op .andNot .u64 (.op .or .u64 (.op .andNot .u64 (.op .or .u64 (.lit 0) (.op .shl .u64 (.cv .u64 (.v 13)) (.lit 0))) (.lit 4294901760)) (.op .shl .u64 (.cv .u64 (.v 14)) (.lit 16))) (.lit 281470681743360)) (.op .shl .u64 (.cv .u64 (.v 15)) (.lit 32))) (.lit 18446462598732840960)) (.op .shl .u64 (.cv .u64 (.v 17)) (.lit 48))))),(t+18,(.s .u64 (.op .or .u64 (.lit 0) (.op .shl .u64 (.cv .u64 (.v 16)) (.lit 0))))),(t+19,(.s .u64 (.op .or .u64 (.op .andNot .u64 (.op .or .u64 (.lit 0) (.op .shl .u64 (.cv .u64 (.v 18)) (.lit 0))) (.lit 18446744069414584320)) (.op .shl .u64 (.cv .u64 (.v 20)) (.lit 32))))),(t+32,(.s .u64 (.v 21))),(t+33,(.s .u64 (.v 22))),(t+34,(.s .u64 (.v 23))),(t+35,(.s .u64 (.v 24))),(t+36,(.s .u64 (.v 25))),(t+37,(.s .u64 (.v 26))),(t+38,(.s .u64 (.v 27))),(t+39,(.s .u64 (.v 28))),(t+40,(.s .u64 (.v 29))),(t+41,(.s .u64 (.v 30))),(t+42,(.s .u64 (.v 31))),(t+43,(.s .u64 (.v 32))),(t+44,(.s .u64 (.v 33))),(t+45,(.s .u64 (.v 34))),(t+46,(.s .u64 (.v 35))),(t+47,(.s .u64 (.v 36)))],20⟩
theorem cA {i:Nat} {x:Int} (hx:E.i i=x) (h:0<=x):(SB.cmp .lss (.v i) (.lit 0)).den E=false:=by
 show iLt (E.i i) 0=false
 rw[zaU,hx];exact decide_eq_false (by omega)
theorem cD {i:Nat} {x:Int} (hx:E.i i=x) (h:x<=5):(SB.cmp .leq (.v i) (.lit 5)).den E=true:=by
 show iLe (E.i i) 5=true
 rw[zcX,hx];exact decide_eq_true h
theorem znE {n:Nat} (h:n<=32):(2:Int) ^ n<=4294967296:=by
 have h2:(2:Nat) ^ n<=2 ^ 32:=Nat.pow_le_pow_right (by omega) h
 have e1:((2 ^ n:Nat):Int)=2 ^ n:=by simp
 have e2:((2 ^ 32:Nat):Int)=4294967296:=by decide
 omega
theorem cvu {i:Nat} {x:Int} (n:Nat) (hn:n<=32) (hx:E.i i=x) (h0:0<=x) (h1:x<2 ^ n):SE.den E (.cv .u64 (.v i))=x:=by
 have:=znE hn
 exact yj hx h0 (by omega)
theorem cB {i:Nat} {x:Int} (a n:Nat) (ha:a+n<=64/\n<=32) (hx:E.i i=x) (h0:0<=x) (h1:x<2 ^ n):(SB.cmp .neq (.op .shr .u64 (.op .shl .u64 (.cv .u64 (.v i)) (.lit (a:Int))) (.lit (a:Int))) (.cv .u64 (.v i))).den E=false:=
 zft (x:=x) (by
  show arS .shr .u64 (arS .shl .u64 (SE.den E (.cv .u64 (.v i))) (a:Int)) (a:Int)=x
  rw[cvu n ha.2 hx h0 h1]
  exact(pk_in a n rfl ha.1 h0 h1).2) (cvu n ha.2 hx h0 h1)
theorem cC {i:Nat} {x M:Int} (a n:Nat) (hM:M=(2 ^ n - 1)*2 ^ a) (ha:a+n<=64/\n<=32) (hx:E.i i=x) (h0:0<=x) (h1:x<2 ^ n):(SB.cmp .neq (.op .andNot .u64 (.op .shl .u64 (.cv .u64 (.v i)) (.lit (a:Int))) (.lit M)) (.lit 0)).den E=false:=
 zft (x:=0) (by
  show arS .andNot .u64 (arS .shl .u64 (SE.den E (.cv .u64 (.v i))) (a:Int)) M=0
  rw[cvu n ha.2 hx h0 h1]
  exact(pk_in a n hM ha.1 h0 h1).1) rfl
theorem w0D {i:Nat} {x:Int} (n:Nat) (hn:n<=32) (hx:E.i i=x) (h0:0<=x) (h1:x<2 ^ n):SE.den E (.op .or .u64 (.lit 0) (.op .shl .u64 (.cv .u64 (.v i)) (.lit 0)))=x:=by
 have h2:=znE hn
 obtain⟨u,rfl⟩:=Int.eq_ofNat_of_zero_le h0
 show arS .or .u64 0 (arS .shl .u64 (SE.den E (.cv .u64 (.v i))) ((0:Nat):Int))=_
 rw[cvu n hn hx h0 h1,zeJ 0 (by omega) h0 (by simp;omega)]
 have e1:(u:Int)*2 ^ 0=(u:Int):=by simp
 rw[e1]
 have:=zh4 0 u (by omega) (by omega)
 rw[show ((0:Nat):Int)=0 from rfl]at this
 rw[this]
 have:Nat.lor 0 u=u:=Nat.zero_or u
 rw[this]
theorem wD {X:SE} {i:Nat} {y x A M:Int} (a n:Nat) (hA:(2:Int) ^ a=A) (hM:M=(2 ^ n - 1)*2 ^ a) (ha:a+n<=64/\n<=32) (hX:X.den E=y) (y0:0<=y) (y1:y<A) (hx:E.i i=x) (h0:0<=x) (h1:x<2 ^ n) :
  SE.den E (.op .or .u64 (.op .andNot .u64 X (.lit M)) (.op .shl .u64 (.cv .u64 (.v i)) (.lit (a:Int))))=y+x*A:=by
 show arS .or .u64 (arS .andNot .u64 (X.den E) M) (arS .shl .u64 (SE.den E (.cv .u64 (.v i))) (a:Int))=_
 rw[cvu n ha.2 hx h0 h1,hX,pk_val a n hM ha.1 y0 (by rw[hA];exact y1) h0 h1,hA]
theorem wB {X:SE} {y A M:Int} (b:Bool) (a:Nat) (hA:(2:Int) ^ a=A) (hM:M=A) (ha:a+1<=32) (hX:X.den E=y) (y0:0<=y) (y1:y<A) :
  SE.den E (.op .or .u64 (.op .andNot .u64 X (.lit M)) (.lit (b2 b*M)))=y+b2 b*A:=by
 have hb:=zbO b
 show arS .or .u64 (arS .andNot .u64 (X.den E) M) (b2 b*M)=_
 have h2:=znE (n:=a) (by omega)
 have e:b2 b*M=arS .shl .u64 (b2 b) (a:Int):=by
  rw[zeJ a (by omega) hb.1 (by rw[hA];cases b <;> simp only[b2] <;> omega),hA,hM]
 rw[e,hX,pk_val a 1 (by rw[hM,hA];simp) (by omega) y0 (by rw[hA];exact y1) hb.1 (by cases b <;> decide),hA]
def zcG (N:Nat) (st:Int) (v:TV) (f:Nat->Int) (t:Nat):Env:=⟨fun i=>if i=5 then st else if i=10 then v.st else if i=11 then v.pr else if i=12 then v.sl else if i=13 then v.pv else if i=14 then v.nx else if i=15 then v.bl else if i=16 then v.bd else if i=17 then v.bo else if i=18 then v.ha else if i=19 then v.fk else if i=20 then v.fa else zp f t (i - 21),fun _=>false,fun _=>zej N f⟩
theorem wr_fin {f:Nat->Int} {t:Nat} {a b c d:Int} {v:TV} (ha:a=v.w0) (hb:b=v.w1) (hc:c=v.w2) (hd:d=v.w3) (r:Nat->Int) (hr:∀ j,r j=f (t+32+j)):upd (upd (upd (upd (upd (upd (upd (upd (upd (upd (upd (upd (upd (upd (upd (upd (upd (upd (upd (upd f (t+16) a) (t+17) b) (t+18) c) (t+19) d) (t+32) (r 0)) (t+33) (r 1)) (t+34) (r 2)) (t+35) (r 3)) (t+36) (r 4)) (t+37) (r 5)) (t+38) (r 6)) (t+39) (r 7)) (t+40) (r 8)) (t+41) (r 9)) (t+42) (r 10)) (t+43) (r 11)) (t+44) (r 12)) (t+45) (r 13)) (t+46) (r 14)) (t+47) (r 15)=zg f t v:=by
 subst ha hb hc hd
 show upd (upd (upd (upd (upd (upd (upd (upd (upd (upd (upd (upd (upd (upd (upd (upd (zg f t v) (t+32) (r 0)) (t+33) (r 1)) (t+34) (r 2)) (t+35) (r 3)) (t+36) (r 4)) (t+37) (r 5)) (t+38) (r 6)) (t+39) (r 7)) (t+40) (r 8)) (t+41) (r 9)) (t+42) (r 10)) (t+43) (r 11)) (t+44) (r 12)) (t+45) (r 13)) (t+46) (r 14)) (t+47) (r 15)=zg f t v
 have hg:∀ j,r j=zg f t v (t+32+j):=fun j=>by rw[hr,ze f v (by omega)]
 generalize zg f t v=g at *
 rw[jT g (t+32) (hg 0),jT g (t+33) (hg 1),jT g (t+34) (hg 2),jT g (t+35) (hg 3),jT g (t+36) (hg 4),jT g (t+37) (hg 5),jT g (t+38) (hg 6),jT g (t+39) (hg 7),jT g (t+40) (hg 8),jT g (t+41) (hg 9),jT g (t+42) (hg 10),jT g (t+43) (hg 11),jT g (t+44) (hg 12),jT g (t+45) (hg 13),jT g (t+46) (hg 14),jT g (t+47) (hg 15)]
def jx (N:Nat) (st:Int) (f:Nat->Int) (t:Nat):Env:=⟨fun i=>if i=5 then st else if i<104 then f (t+16+(i - 100)) else f (t+32+(i - 104)),fun _=>false,fun _=>zej N f⟩
theorem bD {e:SE} {w A:Int} (a:Nat) (hA:(2:Int) ^ a=A) (ha:a+1<=32) (he:e.den E=w) (h0:0<=w) (h1:w<18446744073709551616):(SB.cmp .eql (.cv .i64 (.op .shr .u64 (.op .and .u64 e (.lit A)) (.lit (a:Int)))) (.lit 1)).den E=decide (w / A % 2=1):=by
 show iEq (SE.den E (.cv .i64 (.op .shr .u64 (.op .and .u64 e (.lit A)) (.lit (a:Int))))) 1=_
 rw[zbc (B:=2) a 1 hA rfl (by omega) (by omega) (by omega) he h0 h1,yL]
theorem zrw {c:MC} {F:Nat} {zN:z3} (hc:∀ E,zk E P zN) {t:Nat} (hwf:(thS t).wf c=true) (hr:(thS t).run c F zN=0) {f:Nat->Int} (h:RightAt f t) :
  zaO P c F [.int .i64 t] f (.tuple #[thV (za f t) (zp f t),.int .i64 0]) f 20:=by
 obtain⟨ha,hb,hd,he,hs,hl⟩:=h
 refine zbq (s:=thS t) hwf rfl hr fun st=>⟨jx c.N st f t,rfl,hc _,?_,jU _ _,?_,rfl,fun ρ=>rfl,fun ρ=>?_⟩
 ·refine fa_all ?_
  simp only[thS,List.mem_cons,List.not_mem_nil,or_false,forall_eq_or_imp,forall_eq]
  have n1:(5:Int)<6:=by decide
  refine⟨zft (x:=0) ?_ rfl,zft (x:=0) ?_ rfl,zft (x:=0) ?_ rfl,zft (x:=0) ?_ rfl,?_,?_⟩
  ·rw[show (19:Int)=((19:Nat):Int) from rfl,zfa 19 (by omega) (x:=f (t+16)) rfl ha.1]
   show f (t+16) / 524288=0
   omega
  ·rw[show (64:Int)=((64:Nat):Int) from rfl,zfa 64 (by omega) (x:=f (t+17)) rfl hb.1]
   show f (t+17) / 18446744073709551616=0
   omega
  ·rw[show (28:Int)=((28:Nat):Int) from rfl,zfa 28 (by omega) (x:=f (t+18)) rfl hd.1]
   show f (t+18) / 268435456=0
   omega
  ·rw[show (64:Int)=((64:Nat):Int) from rfl,zfa 64 (by omega) (x:=f (t+19)) rfl he.1]
   show f (t+19) / 18446744073709551616=0
   omega
  ·show iLt 5 (SE.den _ (.cv .i64 (.op .shr .u64 (.op .and .u64 (.v 100) (.lit 7)) (.lit ((0:Nat):Int)))))=false
   rw[zbc (e:=.v 100) (M:=7) (A:=1) (B:=8) 0 3 rfl rfl rfl (by omega) (by omega) (w:=f (t+16)) rfl ha.1 (by omega),zaU]
   exact decide_eq_false (by omega)
  ·show iLt 5 (SE.den _ (.cv .i64 (.op .shr .u64 (.op .and .u64 (.v 100) (.lit 14336)) (.lit ((11:Nat):Int)))))=false
   rw[zbc (e:=.v 100) (M:=14336) (A:=2048) (B:=8) 11 3 rfl rfl rfl (by omega) (by omega) (w:=f (t+16)) rfl ha.1 (by omega),zaU]
   exact decide_eq_false (by omega)
 ·simp only[thS,List.mem_cons,List.not_mem_nil,or_false,forall_eq_or_imp,forall_eq]
  refine⟨rfl,rfl,rfl,rfl,rfl,rfl,rfl,rfl,rfl,rfl,rfl,rfl,rfl,rfl,rfl,rfl,rfl,rfl,rfl,rfl⟩
 ·have ha2:f (t+16)<18446744073709551616:=by omega
  have hd2:f (t+18)<18446744073709551616:=by omega
  have est:SE.den (jx c.N st f t) (.cv .i64 (.op .shr .u64 (.op .and .u64 (.v 100) (.lit 7)) (.lit 0)))=(za f t).st:=by
   rw[show (0:Int)=((0:Nat):Int) from rfl,zbc (e:=.v 100) (M:=7) (A:=1) (B:=8) 0 3 rfl rfl rfl (by omega) (by omega) (w:=f (t+16)) rfl ha.1 ha2]
   show f (t+16) / 1 % 8=f (t+16) % 8
   rw[Int.ediv_one]
  have epr:SE.den (jx c.N st f t) (.cv .i64 (.op .shr .u64 (.op .and .u64 (.v 100) (.lit 2040)) (.lit 3)))=(za f t).pr:=by
   rw[show (3:Int)=((3:Nat):Int) from rfl,zbc (e:=.v 100) (M:=2040) (A:=8) (B:=256) 3 8 rfl rfl rfl (by omega) (by omega) (w:=f (t+16)) rfl ha.1 ha2]
   rfl
  have esl:SE.den (jx c.N st f t) (.cv .i64 (.op .shr .u64 (.op .and .u64 (.v 100) (.lit 14336)) (.lit 11)))=(za f t).sl:=by
   rw[show (11:Int)=((11:Nat):Int) from rfl,zbc (e:=.v 100) (M:=14336) (A:=2048) (B:=8) 11 3 rfl rfl rfl (by omega) (by omega) (w:=f (t+16)) rfl ha.1 ha2]
   rfl
  have epv:SE.den (jx c.N st f t) (.cv .i64 (.op .shr .u64 (.op .and .u64 (.v 101) (.lit 65535)) (.lit 0)))=(za f t).pv:=by
   rw[show (0:Int)=((0:Nat):Int) from rfl,zbc (e:=.v 101) (M:=65535) (A:=1) (B:=65536) 0 16 rfl rfl rfl (by omega) (by omega) (w:=f (t+17)) rfl hb.1 hb.2]
   show f (t+17) / 1 % 65536=f (t+17) % 65536
   rw[Int.ediv_one]
  have enx:SE.den (jx c.N st f t) (.cv .i64 (.op .shr .u64 (.op .and .u64 (.v 101) (.lit 4294901760)) (.lit 16)))=(za f t).nx:=by
   rw[show (16:Int)=((16:Nat):Int) from rfl,zbc (e:=.v 101) (M:=4294901760) (A:=65536) (B:=65536) 16 16 rfl rfl rfl (by omega) (by omega) (w:=f (t+17)) rfl hb.1 hb.2]
   rfl
  have ebl:SE.den (jx c.N st f t) (.cv .i64 (.op .shr .u64 (.op .and .u64 (.v 101) (.lit 281470681743360)) (.lit 32)))=(za f t).bl:=by
   rw[show (32:Int)=((32:Nat):Int) from rfl,zbc (e:=.v 101) (M:=281470681743360) (A:=4294967296) (B:=65536) 32 16 rfl rfl rfl (by omega) (by omega) (w:=f (t+17)) rfl hb.1 hb.2]
   rfl
  have ebd:SE.den (jx c.N st f t) (.cv .i64 (.op .shr .u64 (.op .and .u64 (.v 102) (.lit 268435455)) (.lit 0)))=(za f t).bd:=by
   rw[show (0:Int)=((0:Nat):Int) from rfl,zbc (e:=.v 102) (M:=268435455) (A:=1) (B:=268435456) 0 28 rfl rfl rfl (by omega) (by omega) (w:=f (t+18)) rfl hd.1 hd2]
   show f (t+18) / 1 % 268435456=f (t+18) % 268435456
   rw[Int.ediv_one]
  have ebo:SE.den (jx c.N st f t) (.cv .i64 (.op .shr .u64 (.op .and .u64 (.v 101) (.lit 18446462598732840960)) (.lit 48)))=(za f t).bo:=by
   rw[show (48:Int)=((48:Nat):Int) from rfl,zbc (e:=.v 101) (M:=18446462598732840960) (A:=281474976710656) (B:=65536) 48 16 rfl rfl rfl (by omega) (by omega) (w:=f (t+17)) rfl hb.1 hb.2]
   rfl
  have eha:SE.den (jx c.N st f t) (.cv .i64 (.op .shr .u64 (.op .and .u64 (.v 103) (.lit 4294967295)) (.lit 0)))=(za f t).ha:=by
   rw[show (0:Int)=((0:Nat):Int) from rfl,zbc (e:=.v 103) (M:=4294967295) (A:=1) (B:=4294967296) 0 32 rfl rfl rfl (by omega) (by omega) (w:=f (t+19)) rfl he.1 he.2]
   show f (t+19) / 1 % 4294967296=f (t+19) % 4294967296
   rw[Int.ediv_one]
  have efk:SE.den (jx c.N st f t) (.cv .i64 (.op .shr .u64 (.op .and .u64 (.v 100) (.lit 393216)) (.lit 17)))=(za f t).fk:=by
   rw[show (17:Int)=((17:Nat):Int) from rfl,zbc (e:=.v 100) (M:=393216) (A:=131072) (B:=4) 17 2 rfl rfl rfl (by omega) (by omega) (w:=f (t+16)) rfl ha.1 ha2]
   rfl
  have efa:SE.den (jx c.N st f t) (.cv .i64 (.op .shr .u64 (.op .and .u64 (.v 103) (.lit 18446744069414584320)) (.lit 32)))=(za f t).fa:=by
   rw[show (32:Int)=((32:Nat):Int) from rfl,zbc (e:=.v 103) (M:=18446744069414584320) (A:=4294967296) (B:=4294967296) 32 32 rfl rfl rfl (by omega) (by omega) (w:=f (t+19)) rfl he.1 he.2]
   rfl
  have eq:SB.den (jx c.N st f t) (.cmp .eql (.cv .i64 (.op .shr .u64 (.op .and .u64 (.v 100) (.lit 16384)) (.lit 14))) (.lit 1))=(za f t).q:=by
   rw[show (14:Int)=((14:Nat):Int) from rfl]
   exact bD 14 rfl (by omega) (w:=f (t+16)) rfl ha.1 ha2
  have eg:SB.den (jx c.N st f t) (.cmp .eql (.cv .i64 (.op .shr .u64 (.op .and .u64 (.v 100) (.lit 32768)) (.lit 15))) (.lit 1))=(za f t).g:=by
   rw[show (15:Int)=((15:Nat):Int) from rfl]
   exact bD 15 rfl (by omega) (w:=f (t+16)) rfl ha.1 ha2
  have ec:SB.den (jx c.N st f t) (.cmp .eql (.cv .i64 (.op .shr .u64 (.op .and .u64 (.v 100) (.lit 65536)) (.lit 16))) (.lit 1))=(za f t).c:=by
   rw[show (16:Int)=((16:Nat):Int) from rfl]
   exact bD 16 rfl (by omega) (w:=f (t+16)) rfl ha.1 ha2
  simp only[thS,RR.v,RA.v,zgh,RS.v,V.γ,γL,est,epr,esl,epv,enx,ebl,ebd,ebo,eha,efk,efa,eq,eg,ec]
  rfl
theorem zlK {c:MC} {F:Nat} {zN:z3} (hc:∀ E,zk E P zN) {t:Nat} {v:TV} (hwf:(stS v.q v.g v.c t).wf c=true) (hr:(stS v.q v.g v.c t).run c F zN=0) {f:Nat->Int} (h:v.Right) :
  zaO P c F [.int .i64 t,thV v (zp f t)] f (.int .i64 0) (zg f t v) 20:=by
 refine zbq (s:=stS v.q v.g v.c t) hwf rfl hr fun st=>?_
 refine⟨zcG c.N st v f t,rfl,hc _,?_,jU _ _,fun p hp=>(by cases hp),?_,fun ρ=>rfl,fun ρ=>rfl⟩
 ·refine fa_all ?_
  simp only[stS,List.mem_cons,List.not_mem_nil,or_false,forall_eq_or_imp,forall_eq]
  exact⟨cA rfl h.st.1,
   cA rfl h.pr.1,
   cA rfl h.sl.1,
   cA rfl h.fk.1,
   cB (x:=v.st) 0 3 (by decide) rfl h.st.1 (by have:=h.st.2;omega),
   cC (x:=v.st) 0 3 rfl (by decide) rfl h.st.1 (by have:=h.st.2;omega),
   cB (x:=v.pr) 3 8 (by decide) rfl h.pr.1 (by have:=h.pr.2;omega),
   cC (x:=v.pr) 3 8 rfl (by decide) rfl h.pr.1 (by have:=h.pr.2;omega),
   cB (x:=v.sl) 11 3 (by decide) rfl h.sl.1 (by have:=h.sl.2;omega),
   cC (x:=v.sl) 11 3 rfl (by decide) rfl h.sl.1 (by have:=h.sl.2;omega),
   cB (x:=v.fk) 17 2 (by decide) rfl h.fk.1 (by have:=h.fk.2;omega),
   cC (x:=v.fk) 17 2 rfl (by decide) rfl h.fk.1 (by have:=h.fk.2;omega),
   cA rfl h.pv.1,
   cA rfl h.nx.1,
   cA rfl h.bl.1,
   cA rfl h.bo.1,
   cB (x:=v.pv) 0 16 (by decide) rfl h.pv.1 (by have:=h.pv.2;omega),
   cC (x:=v.pv) 0 16 rfl (by decide) rfl h.pv.1 (by have:=h.pv.2;omega),
   cB (x:=v.nx) 16 16 (by decide) rfl h.nx.1 (by have:=h.nx.2;omega),
   cC (x:=v.nx) 16 16 rfl (by decide) rfl h.nx.1 (by have:=h.nx.2;omega),
   cB (x:=v.bl) 32 16 (by decide) rfl h.bl.1 (by have:=h.bl.2;omega),
   cC (x:=v.bl) 32 16 rfl (by decide) rfl h.bl.1 (by have:=h.bl.2;omega),
   cB (x:=v.bo) 48 16 (by decide) rfl h.bo.1 (by have:=h.bo.2;omega),
   cC (x:=v.bo) 48 16 rfl (by decide) rfl h.bo.1 (by have:=h.bo.2;omega),
   cA rfl h.bd.1,
   cB (x:=v.bd) 0 28 (by decide) rfl h.bd.1 (by have:=h.bd.2;omega),
   cC (x:=v.bd) 0 28 rfl (by decide) rfl h.bd.1 (by have:=h.bd.2;omega),
   cA rfl h.ha.1,
   cA rfl h.fa.1,
   cB (x:=v.ha) 0 32 (by decide) rfl h.ha.1 (by have:=h.ha.2;omega),
   cC (x:=v.ha) 0 32 rfl (by decide) rfl h.ha.1 (by have:=h.ha.2;omega),
   cB (x:=v.fa) 32 32 (by decide) rfl h.fa.1 (by have:=h.fa.2;omega),
   cC (x:=v.fa) 32 32 rfl (by decide) rfl h.fa.1 (by have:=h.fa.2;omega),
   cD rfl h.st.2,
   cD rfl h.sl.2⟩
 ·have bq:=zbO v.q
  have bg:=zbO v.g
  have bc':=zbO v.c
  obtain⟨h1,h2,h3,h4,h5,h6,h7,h8,h9,h10,h11⟩:=h
  have e0:=w0D (E:=zcG c.N st v f t) (i:=10) (x:=v.st) 3 (by omega) rfl h1.1 (by show v.st<8;omega)
  have e1:=wD (i:=11) (x:=v.pr) (A:=8) (M:=2040) 3 8 rfl rfl (by decide) e0 h1.1 (by omega) rfl h2.1 (by show v.pr<256;omega)
  have e2:=wD (i:=12) (x:=v.sl) (A:=2048) (M:=14336) 11 3 rfl rfl (by decide) e1 (by omega) (by omega) rfl h3.1 (by show v.sl<8;omega)
  have e3:=wB (A:=16384) (M:=16384) v.q 14 rfl rfl (by decide) e2 (by omega) (by omega)
  have e4:=wB (A:=32768) (M:=32768) v.g 15 rfl rfl (by decide) e3 (by omega) (by omega)
  have e5:=wB (A:=65536) (M:=65536) v.c 16 rfl rfl (by decide) e4 (by omega) (by omega)
  have e6:=wD (i:=19) (x:=v.fk) (A:=131072) (M:=393216) 17 2 rfl rfl (by decide) e5 (by omega) (by omega) rfl h10.1 (by show v.fk<4;omega)
  have g0:=w0D (E:=zcG c.N st v f t) (i:=13) (x:=v.pv) 16 (by omega) rfl h4.1 (by show v.pv<65536;omega)
  have g1:=wD (i:=14) (x:=v.nx) (A:=65536) (M:=4294901760) 16 16 rfl rfl (by decide) g0 h4.1 (by omega) rfl h5.1 (by show v.nx<65536;omega)
  have g2:=wD (i:=15) (x:=v.bl) (A:=4294967296) (M:=281470681743360) 32 16 rfl rfl (by decide) g1 (by omega) (by omega) rfl h6.1 (by show v.bl<65536;omega)
  have g3:=wD (i:=17) (x:=v.bo) (A:=281474976710656) (M:=18446462598732840960) 48 16 rfl rfl (by decide) g2 (by omega) (by omega) rfl h8.1 (by show v.bo<65536;omega)
  have k0:=w0D (E:=zcG c.N st v f t) (i:=16) (x:=v.bd) 28 (by omega) rfl h7.1 (by show v.bd<268435456;omega)
  have d0:=w0D (E:=zcG c.N st v f t) (i:=18) (x:=v.ha) 32 (by omega) rfl h9.1 (by show v.ha<4294967296;omega)
  have d1:=wD (i:=20) (x:=v.fa) (A:=4294967296) (M:=18446744069414584320) 32 32 rfl rfl (by decide) d0 h9.1 (by omega) rfl h11.1 (by show v.fa<4294967296;omega)
  exact wr_fin e6 g3 k0 d1 (zp f t) (fun j=>rfl)
end Go.Ev
end
set_option linter.unusedSimpArgs false
set_option linter.unusedVariables false
noncomputable section
namespace Go.Ev
open Go
def zgl (w k:Nat) (on:Bool):Nat:=match on with
 | true=>(w ^^^ (w &&& 2 ^ k)) ||| 2 ^ k
 | false=>w ^^^ (w &&& 2 ^ k)
def zbT (w:Int) (k:Nat) (on:Bool):Int:=((zgl w.toNat k on:Nat):Int)
theorem zfS (w k:Nat) (on:Bool) (i:Nat):Nat.testBit (zgl w k on) i=if i=k then on else Nat.testBit w i:=by
 cases on with
 | true=>
  unfold zgl
  rw[Nat.testBit_or,Nat.testBit_xor,Nat.testBit_and,Nat.testBit_two_pow]
  by_cases h:i=k
  ·subst h;simp
  ·have:¬ k=i:=fun e=>h e.symm
   simp[h,this]
 | false=>
  unfold zgl
  rw[Nat.testBit_xor,Nat.testBit_and,Nat.testBit_two_pow]
  by_cases h:i=k
  ·subst h;simp
  ·have:¬ k=i:=fun e=>h e.symm
   simp[h,this]
theorem zlc {w k n:Nat} (on:Bool) (hw:w<2 ^ n) (hk:k<n):zgl w k on<2 ^ n:=by
 have h2:2 ^ k<2 ^ n:=Nat.pow_lt_pow_right (by omega) hk
 have h3:w &&& 2 ^ k<2 ^ n:=Nat.and_lt_two_pow _ h2
 cases on with
 | true=>exact Nat.or_lt_two_pow (Nat.xor_lt_two_pow hw h3) h2
 | false=>exact Nat.xor_lt_two_pow hw h3
def zl (f:Nat->Int) (p:Nat):Int:=f (256+p) % 65536
def zx (f:Nat->Int) (p:Nat):Int:=f (256+p) / 65536 % 65536
def yI (f:Nat->Int) (p:Nat) (h l:Int):Nat->Int:=
 upd (upd (upd f (256+p) (h+l*65536)) (8+p / 64) (zbT (f (8+p / 64)) (p % 64) (!decide (h=0)))) 4 (zbT (f 4) (p / 64) (!decide (zbT (f (8+p / 64)) (p % 64) (!decide (h=0))=0)))
theorem jm (f:Nat->Int) (p:Nat) (h l:Int) {i:Nat} (h1:i≠256+p) (h2:i≠8+p / 64) (h3:i≠4):yI f p h l i=f i:=by
 unfold yI
 rw[zY _ _ h3,zY _ _ h2,zY _ _ h1]
theorem zbW (f:Nat->Int) {p:Nat} (h l:Int) {t:Nat} (hp:p<256) (ht:512<=t):za (yI f p h l) t=za f t:=by
 unfold za
 rw[jm f p h l (by omega) (by omega) (by omega),jm f p h l (by omega) (by omega) (by omega),jm f p h l (by omega) (by omega) (by omega),jm f p h l (by omega) (by omega) (by omega)]
theorem zkj {f:Nat->Int} {p:Nat} (h l:Int) {t:Nat} (hp:p<256) (ht:512<=t) (hr:RightAt f t):RightAt (yI f p h l) t:=by
 obtain⟨a,b,c,d,e,g⟩:=hr
 refine⟨?_,?_,?_,?_,?_,?_⟩ <;> rw[jm f p h l (by omega) (by omega) (by omega)] <;> assumption
def zed (f:Nat->Int) (t:Nat) (n:Int):Nat->Int:=zg f t { za f t with nx:=n }
def zec (f:Nat->Int) (t:Nat) (n:Int):Nat->Int:=zg f t { za f t with pv:=n }
def zbb (f:Nat->Int) (t:Nat):Nat->Int:=
 if zl f (za f t).pr.toNat=0 then yI (zg f t { za f t with q:=true }) (za f t).pr.toNat t t
 else yI (zed (zg f t { za f t with q:=true,pv:=zx f (za f t).pr.toNat }) (zx f (za f t).pr.toNat).toNat t) (za f t).pr.toNat (zl f (za f t).pr.toNat) t
def z6 (f:Nat->Int) (t:Nat):Nat->Int:=
 if zl f (za f t).pr.toNat=0 then yI (zg f t { za f t with q:=true }) (za f t).pr.toNat t t
 else yI (zec (zg f t { za f t with q:=true,nx:=zl f (za f t).pr.toNat }) (zl f (za f t).pr.toNat).toNat t) (za f t).pr.toNat t (zx f (za f t).pr.toNat)
def ziF (f:Nat->Int) (t:Nat):Nat->Int:=if (za f t).pv=0 then f else zed f (za f t).pv.toNat (za f t).nx
def zkS (f:Nat->Int) (t:Nat):Nat->Int:=if (za f t).nx=0 then ziF f t else zec (ziF f t) (za f t).nx.toNat (za f t).pv
def zZ (f:Nat->Int) (t:Nat):Nat->Int:=
 yI (zg (zkS f t) t { za f t with q:=false,pv:=0,nx:=0 }) (za f t).pr.toNat
  (if zl f (za f t).pr.toNat=t then (za f t).nx else zl f (za f t).pr.toNat) (if zx f (za f t).pr.toNat=t then (za f t).pv else zx f (za f t).pr.toNat)
def hdN (l:List Nat) (n:Nat):Nat:=match l with
 | []=>n
 | t::_=>t
def laN:List Nat->Nat->Nat
 | [],p=>p
 | t::r,_=>laN r t
def Lk (f:Nat->Int):Nat->List Nat->Nat->Prop
 | _,[],_=>True
 | p,t::r,n=>(za f t).pv=(p:Int)/\(za f t).nx=(hdN r n:Int)/\Lk f t r n
theorem jP (a b:List Nat) (n:Nat):hdN (a ++ b) n=hdN a (hdN b n):=by cases a <;> rfl
theorem jM:∀ (a b:List Nat) (p:Nat),laN (a ++ b) p=laN b (laN a p)
 | [],b,p=>rfl
 | t::r,b,p=>jM r b t
theorem j5 {f:Nat->Int}:∀ {a b:List Nat} {p n:Nat},Lk f p (a ++ b) n ↔ Lk f p a (hdN b n)/\Lk f (laN a p) b n
 | [],b,p,n=>by simp[Lk,laN]
 | t::r,b,p,n=>by
  show ((za f t).pv=(p:Int)/\(za f t).nx=(hdN (r ++ b) n:Int)/\Lk f t (r ++ b) n) ↔ ((za f t).pv=(p:Int)/\(za f t).nx=(hdN r (hdN b n):Int)/\Lk f t r (hdN b n))/\Lk f (laN r t) b n
  rw[jP,j5 (a:=r)]
  constructor
  ·rintro ⟨h1,h2,h3,h4⟩;exact⟨⟨h1,h2,h3⟩,h4⟩
  ·rintro ⟨⟨h1,h2,h3⟩,h4⟩;exact⟨h1,h2,h3,h4⟩
theorem j4 {f g:Nat->Int}:∀ {l:List Nat} {p n:Nat},(∀ t∈l,(za g t).pv=(za f t).pv/\(za g t).nx=(za f t).nx)->Lk f p l n->Lk g p l n
 | [],p,n,_,_=>trivial
 | t::r,p,n,h,hl=>by
  obtain⟨h1,h2⟩:=h t (List.mem_cons_self ..)
  exact⟨h1.trans hl.1,h2.trans hl.2.1,j4 (fun t ht=>h t (List.mem_cons_of_mem _ ht)) hl.2.2⟩
theorem zu:∀ {l:List Nat} {p:Nat},l≠[]->laN l p∈l
 | [],p,h=>absurd rfl h
 | [t],p,_=>by simp[laN]
 | t::u::r,p,_=>List.mem_cons_of_mem _ (zu (l:=u::r) (p:=t) (by simp))
theorem zw {l:List Nat} {n:Nat} (h:l≠[]):hdN l n∈l:=by
 cases l with
 | nil=>exact absurd rfl h
 | cons t r=>simp[hdN]
theorem laN_nil {l:List Nat} (p q:Nat) (h:l≠[]):laN l p=laN l q:=by
 cases l with
 | nil=>exact absurd rfl h
 | cons t r=>rfl
theorem zfj {f g:Nat->Int}:∀ {l:List Nat} {p n n':Nat},l.Nodup->(∀ t∈l,(za g t).pv=(za f t).pv)->(∀ t∈l,t≠laN l p->(za g t).nx=(za f t).nx)->(l≠[]->(za g (laN l p)).nx=(n':Int))->Lk f p l n->Lk g p l n'
 | [],p,n,n',_,_,_,_,_=>trivial
 | [t],p,n,n',_,h1,_,h3,hl=>⟨(h1 t (by simp)).trans hl.1,h3 (by simp),trivial⟩
 | t::u::r,p,n,n',hn,h1,h2,h3,hl=>by
  have hn':=List.nodup_cons.1 hn
  have hm:laN (u::r) t∈u::r:=zu (by simp)
  refine⟨(h1 t (by simp)).trans hl.1,(h2 t (by simp) (fun e=>hn'.1 (by rw[e];exact hm))).trans hl.2.1,?_⟩
  exact zfj (l:=u::r) (p:=t) hn'.2 (fun x hx=>h1 x (List.mem_cons_of_mem _ hx)) (fun x hx hne=>h2 x (List.mem_cons_of_mem _ hx) hne) (fun _=>h3 (by simp)) hl.2.2
theorem zh7 {f g:Nat->Int} {l:List Nat} {p p' n:Nat} (hn:l.Nodup) (h1:∀ t∈l,(za g t).nx=(za f t).nx) (h2:∀ t∈l,t≠hdN l 0->(za g t).pv=(za f t).pv) (h3:l≠[]->(za g (hdN l 0)).pv=(p':Int)) (hl:Lk f p l n):Lk g p' l n:=by
 cases l with
 | nil=>trivial
 | cons t r=>
  have hn':=List.nodup_cons.1 hn
  refine⟨h3 (by simp),(h1 t (by simp)).trans hl.2.1,j4 (fun x hx=>⟨h2 x (List.mem_cons_of_mem _ hx) (fun e=>?_),h1 x (List.mem_cons_of_mem _ hx)⟩) hl.2.2⟩
  have e:x=t:=e
  exact hn'.1 (by rw[<- e];exact hx)
def za3 (Q:Nat->List Nat) (p:Nat) (l:List Nat):Nat->List Nat:=fun i=>if i=p then l else Q i
theorem zP (Q:Nat->List Nat) (p:Nat) (l:List Nat):za3 Q p l p=l:=if_pos rfl
theorem zQ (Q:Nat->List Nat) {p i:Nat} (l:List Nat) (h:i≠p):za3 Q p l i=Q i:=if_neg h
structure Thr (T:Nat->Prop):Prop where
 lo:∀ t,T t->1024<=t
 hi:∀ t,T t->t+64<=65536
 ap:∀ t u,T t->T u->t≠u->zbf t u
structure QInv (T:Nat->Prop) (f:Nat->Int) (Q:Nat->List Nat):Prop where
 thr:∀ t,T t->RightAt f t
 el:∀ p t,p<256->t∈Q p->T t/\(za f t).pr=(p:Int)/\(za f t).q=true
 off:∀ t,T t->(za f t).q=true->t∈Q (za f t).pr.toNat
 free:∀ t,T t->(za f t).q=false->(za f t).pv=0/\(za f t).nx=0
 nd:∀ p,p<256->(Q p).Nodup
 lk:∀ p,p<256->Lk f 0 (Q p) 0
 hd:∀ p,p<256->f (256+p)=(hdN (Q p) 0:Int)+(laN (Q p) 0:Int)*65536
 bm:∀ g,g<4->0<=f (8+g)/\f (8+g)<18446744073709551616/\∀ k,k<64->Nat.testBit (f (8+g)).toNat k = !(Q (64*g+k)).isEmpty
 sm:0<=f 4/\f 4<16/\∀ g,g<4->Nat.testBit (f 4).toNat g = !decide (f (8+g)=0)
variable {T:Nat->Prop} {f:Nat->Int} {Q:Nat->List Nat}
theorem zb9 (hT:Thr T) (h:QInv T f Q) {p:Nat} (hp:p<256):hdN (Q p) 0<65536:=by
 by_cases e:Q p=[]
 ·rw[e];show 0<65536;decide
 ·have:=hT.hi _ (h.el p _ hp (zw (n:=0) e)).1;omega
theorem zb6 (hT:Thr T) (h:QInv T f Q) {p:Nat} (hp:p<256):laN (Q p) 0<65536:=by
 by_cases e:Q p=[]
 ·rw[e];show 0<65536;decide
 ·have:=hT.hi _ (h.el p _ hp (zu (p:=0) e)).1;omega
theorem zA (hT:Thr T) (h:QInv T f Q) {p:Nat} (hp:p<256):zl f p=(hdN (Q p) 0:Int):=by
 have h1:=zb9 hT h hp
 have h2:=zb6 hT h hp
 unfold zl
 rw[h.hd p hp];omega
theorem yd (hT:Thr T) (h:QInv T f Q) {p:Nat} (hp:p<256):zx f p=(laN (Q p) 0:Int):=by
 have h1:=zb9 hT h hp
 have h2:=zb6 hT h hp
 unfold zx
 rw[h.hd p hp];omega
theorem znI (h:QInv T f Q) {p:Nat} (hp:p<256) (a b:Nat) (l:List Nat) (hl:a=0 ↔ l=[]) {f0:Nat->Int} (hf:∀ i,i<512->f0 i=f i) :
  (∀ g,g<4->0<=yI f0 p a b (8+g)/\yI f0 p a b (8+g)<18446744073709551616/\∀ k,k<64->Nat.testBit (yI f0 p a b (8+g)).toNat k = !(za3 Q p l (64*g+k)).isEmpty) /\
  (0<=yI f0 p a b 4/\yI f0 p a b 4<16/\∀ g,g<4->Nat.testBit (yI f0 p a b 4).toNat g = !decide (yI f0 p a b (8+g)=0)) /\
  ∀ q,q<256->yI f0 p a b (256+q)=if q=p then (a:Int)+(b:Int)*65536 else f (256+q):=by
 have hon:(!decide ((a:Int)=0)) = !l.isEmpty:=by
  by_cases e:a=0
  ·have:=hl.1 e
   subst this;simp[e]
  ·have:¬ l=[]:=fun h=>e (hl.2 h)
   cases l with
   | nil=>exact absurd rfl this
   | cons x r=>simp;omega
 obtain⟨b0,b1,b3⟩:=h.bm (p / 64) (by omega)
 have hw:yI f0 p a b (8+p / 64)=zbT (f (8+p / 64)) (p % 64) (!l.isEmpty):=by
  unfold yI
  rw[zY _ _ (by omega),za7,hf _ (by omega),hon]
 have hwo:∀ g,g<4->g≠p / 64->yI f0 p a b (8+g)=f (8+g):=fun g hg hne=>by
  rw[jm _ _ _ _ (by omega) (by omega) (by omega),hf _ (by omega)]
 have hs:yI f0 p a b 4=zbT (f 4) (p / 64) (!decide (yI f0 p a b (8+p / 64)=0)):=by
  rw[hw]
  unfold yI
  rw[za7,hf _ (by omega),hf _ (by omega),hon]
 have h64:(2:Nat) ^ 64=18446744073709551616:=by decide
 have hwl:zgl (f (8+p / 64)).toNat (p % 64) (!l.isEmpty)<2 ^ 64:=zlc _ (by omega) (by omega)
 obtain⟨s0,s1,s3⟩:=h.sm
 have hsl:zgl (f 4).toNat (p / 64) (!decide (yI f0 p a b (8+p / 64)=0))<2 ^ 4:=zlc _ (by omega) (by omega)
 refine⟨fun g hg=>?_,⟨?_,?_,fun g hg=>?_⟩,fun q hq=>?_⟩
 ·by_cases e:g=p / 64
  ·subst e
   rw[hw]
   refine⟨Int.natCast_nonneg _,?_,fun k hk=>?_⟩
   ·have:(2:Nat) ^ 64=18446744073709551616:=by decide
    unfold zbT
    omega
   ·show Nat.testBit (Int.toNat ((zgl (f (8+p / 64)).toNat (p % 64) (!l.isEmpty):Nat):Int)) k=_
    rw[Int.toNat_natCast,zfS]
    by_cases e2:k=p % 64
    ·have:64*(p / 64)+k=p:=by omega
     rw[if_pos e2,this,zP]
    ·rw[if_neg e2,zQ _ _ (by omega),b3 k hk]
  ·rw[hwo g hg e]
   obtain⟨c0,c1,c3⟩:=h.bm g hg
   exact⟨c0,c1,fun k hk=>by rw[zQ _ _ (by omega)];exact c3 k hk⟩
 ·rw[hs];exact Int.natCast_nonneg _
 ·rw[hs];unfold zbT;omega
 ·by_cases e:g=p / 64
  ·subst e
   rw[hs]
   show Nat.testBit (Int.toNat ((zgl _ _ _:Nat):Int)) (p / 64)=_
   rw[Int.toNat_natCast,zfS,if_pos rfl]
  ·rw[hwo g hg e,hs]
   show Nat.testBit (Int.toNat ((zgl _ _ _:Nat):Int)) g=_
   rw[Int.toNat_natCast,zfS,if_neg e,s3 g hg]
 ·by_cases e:q=p
  ·subst e
   rw[if_pos rfl]
   unfold yI
   rw[zY _ _ (by omega),zY _ _ (by omega),za7]
  ·rw[if_neg e,jm _ _ _ _ (by omega) (by omega) (by omega),hf _ (by omega)]
end Go.Ev
end
set_option linter.unusedSimpArgs false
set_option linter.unusedVariables false
noncomputable section
namespace Go.Ev
open Go
variable {T:Nat->Prop} {f:Nat->Int} {Q:Nat->List Nat}
theorem zeQ (hT:Thr T) (h:QInv T f Q) {p:Nat} (hp:p<256) {g:Nat->Int} (glo:∀ i,i<512->g i=f i) (gr:∀ u,T u->RightAt g u) (gp:∀ u,T u->(za g u).pr=(za f u).pr)
  {l:List Nat} (lm:∀ u,u∈l->T u/\(za f u).pr=(p:Int)/\(za g u).q=true) (lo:∀ u,T u->(za g u).q=true->(za f u).pr=(p:Int)->u∈l)
  (oq:∀ u,T u->(za f u).pr≠(p:Int)->za g u=za f u) (fr:∀ u,T u->(za g u).q=false->(za g u).pv=0/\(za g u).nx=0) (ln:l.Nodup) (lk:Lk g 0 l 0) :
  QInv T (yI g p (hdN l 0) (laN l 0)) (za3 Q p l):=by
 have hT5:∀ u,T u->za (yI g p (hdN l 0) (laN l 0)) u=za g u:=fun u hu=>zbW g _ _ hp (by have:=hT.lo u hu;omega)
 have hl:hdN l 0=0 ↔ l=[]:=by
  constructor
  ·intro e
   by_cases e2:l=[]
   ·exact e2
   ·have:=hT.lo _ (lm _ (zw (n:=0) e2)).1;omega
  ·intro e;rw[e];rfl
 obtain⟨w1,w2,w3⟩:=znI h hp (hdN l 0) (laN l 0) l hl glo
 refine⟨fun u hu=>zkj _ _ hp (by have:=hT.lo u hu;omega) (gr u hu),fun q u hq hm=>?_,fun u hu=>?_,fun u hu=>?_,fun q hq=>?_,fun q hq=>?_,fun q hq=>?_,w1,w2⟩
 ·by_cases e:q=p
  ·subst e
   rw[zP]at hm
   obtain⟨m1,m2,m3⟩:=lm u hm
   rw[hT5 u m1]
   exact⟨m1,by rw[gp u m1];exact m2,m3⟩
  ·rw[zQ _ _ e]at hm
   obtain⟨m1,m2,m3⟩:=h.el q u hq hm
   rw[hT5 u m1,oq u m1 (by rw[m2];omega)]
   exact⟨m1,m2,m3⟩
 ·rw[hT5 u hu]
  intro hq
  have hr:=(zh (h.thr u hu)).pr
  by_cases e:(za f u).pr=(p:Int)
  ·rw[gp u hu,e,Int.toNat_natCast,zP]
   exact lo u hu hq e
  ·rw[gp u hu,zQ _ _ (by omega)]
   rw[oq u hu e]at hq
   exact h.off u hu hq
 ·rw[hT5 u hu];exact fr u hu
 ·by_cases e:q=p
  ·subst e;rw[zP];exact ln
  ·rw[zQ _ _ e];exact h.nd q hq
 ·by_cases e:q=p
  ·subst e
   rw[zP]
   exact j4 (fun u hu=>by rw[hT5 u (lm u hu).1];exact⟨rfl,rfl⟩) lk
  ·rw[zQ _ _ e]
   refine j4 (fun u hu=>?_) (h.lk q hq)
   obtain⟨m1,m2,m3⟩:=h.el q u hq hu
   rw[hT5 u m1,oq u m1 (by rw[m2];omega)]
   exact⟨rfl,rfl⟩
 ·rw[w3 q hq]
  by_cases e:q=p
  ·subst e;rw[if_pos rfl,zP]
  ·rw[if_neg e,zQ _ _ e];exact h.hd q hq
theorem yK (h:QInv T f Q) {t:Nat} (ht:T t):(za f t).pr.toNat<256/\(((za f t).pr.toNat:Nat):Int)=(za f t).pr:=by
 have:=(zh (h.thr t ht)).pr
 omega
theorem zb4 (h:QInv T f Q) {t:Nat} (hq:(za f t).q=false) {p:Nat} (hp:p<256):t∉Q p:=fun hm=>by
 have:=(h.el p t hp hm).2.2
 rw[hq]at this;cases this
theorem zae {v:TV} (h:v.Right) (q:Bool) {pv nx:Int} (h1:0<=pv/\pv<65536) (h2:0<=nx/\nx<65536):TV.Right { v with q:=q,pv:=pv,nx:=nx }:=
 ⟨h.st,h.pr,h.sl,h1,h2,h.bl,h.bd,h.bo,h.ha,h.fk,h.fa⟩
structure Two (T:Nat->Prop) (f g:Nat->Int) (t:Nat) (v:TV) (P:Nat->TV->TV):Prop where
 lo:∀ i,i<1024->g i=f i
 me:za g t=v
 ot:∀ u,T u->u≠t->za g u=P u (za f u)
 ri:∀ u,T u->RightAt g u
theorem yU (hT:Thr T) (hr:∀ u,T u->RightAt f u) {t:Nat} (ht:T t) {v:TV} (hv:v.Right):Two T f (zg f t v) t v (fun _ x=>x):=
 ⟨fun i hi=>ze f v (by have:=hT.lo t ht;omega),zap hv,fun u hu hne=>jf (hT.ap t u ht hu (fun e=>hne e.symm)),fun u hu=>by
  by_cases e:u=t
  ·subst e;exact yZ hv
  ·exact yh (hT.ap t u ht hu (fun h=>e h.symm)) (hr u hu)⟩
theorem push_g (hT:Thr T) (h:QInv T f Q) {t:Nat} (ht:T t) (hq:(za f t).q=false) :
  QInv T (zbb f t) (za3 Q (za f t).pr.toNat (Q (za f t).pr.toNat ++ [t]))/\(∀ u,T u->∃ pv nx,za (zbb f t) u={ za f u with q:=decide (u=t) || (za f u).q,pv:=pv,nx:=nx }) /\
  ∀ i,i<1024->i≠4->i<8\/(12<=i/\i<256)\/512<=i->zbb f t i=f i:=by
 obtain⟨hp,hpe⟩:=yK h ht
 have hv:=zh (h.thr t ht)
 obtain⟨f1,f2⟩:=h.free t ht hq
 have hni:=zb4 h hq hp
 have htl:=hT.lo t ht
 have hth:=hT.hi t ht
 have hnd:(Q (za f t).pr.toNat ++ [t]).Nodup:=List.nodup_append.2 ⟨h.nd _ hp,by simp,fun x hx y hy=>by simp at hy;subst hy;exact fun e=>hni (e ▸ hx)⟩
 have hla:laN (Q (za f t).pr.toNat ++ [t]) 0=t:=by rw[jM];rfl
 have hlk:=h.lk _ hp
 unfold zbb
 rw[zA hT h hp,yd hT h hp]
 by_cases he:Q (za f t).pr.toNat=[]
 ·rw[if_pos (by rw[he];rfl)]
  have hv':TV.Right { za f t with q:=true }:=⟨hv.st,hv.pr,hv.sl,hv.pv,hv.nx,hv.bl,hv.bd,hv.bo,hv.ha,hv.fk,hv.fa⟩
  have w:=yU hT h.thr ht hv'
  have hhd:hdN (Q (za f t).pr.toNat ++ [t]) 0=t:=by rw[he];rfl
  refine⟨?_,fun u hu=>?_,fun i hi h4 h5=>?_⟩
  ·have:=zeQ hT h hp (g:=zg f t { za f t with q:=true }) (l:=Q (za f t).pr.toNat ++ [t]) (fun i hi=>w.lo i (by omega)) w.ri (fun u hu=>?_) (fun u hu=>?_) (fun u hu hq2 hpr=>?_) (fun u hu hpr=>?_) (fun u hu hq2=>?_) hnd ?_
   ·rw[hhd,hla]at this;exact this
   ·by_cases e:u=t
    ·subst e;rw[w.me]
    ·rw[w.ot u hu e]
   ·rw[he]at hu
    simp at hu
    subst hu
    exact⟨ht,hpe.symm,by rw[w.me]⟩
   ·by_cases e:u=t
    ·subst e;simp
    ·rw[w.ot u hu e]at hq2
     have:=h.off u hu hq2
     rw[hpr,Int.toNat_natCast,he]at this
     cases this
   ·exact w.ot u hu (fun e=>hpr (by rw[e];exact hpe.symm))
   ·by_cases e:u=t
    ·subst e;rw[w.me]at hq2;cases hq2
    ·rw[w.ot u hu e]at hq2 ⊢;exact h.free u hu hq2
   ·rw[he]
    show (za _ t).pv=(0:Nat)/\(za _ t).nx=(0:Nat)/\True
    rw[w.me]
    exact⟨f1,f2,trivial⟩
  ·have hu5:=hT.lo u hu
   rw[zbW _ _ _ hp (by omega)]
   by_cases e:u=t
   ·subst e;rw[w.me];exact⟨_,_,by rw[decide_eq_true rfl];rfl⟩
   ·rw[w.ot u hu e];exact⟨_,_,by rw[decide_eq_false e];rfl⟩
  ·rw[jm _ _ _ _ (by omega) (by omega) h4,w.lo i hi]
 ·have hz:=h.el _ _ hp (zu (p:=0) he)
  have hh:=h.el _ _ hp (zw (n:=0) he)
  have hzt:laN (Q (za f t).pr.toNat) 0≠t:=fun e=>by
   have hm:=zu (p:=0) he
   rw[e]at hm
   exact hni hm
  have hzlo:=hT.lo _ hz.1
  have hzhi:=hT.hi _ hz.1
  rw[if_neg (by have:=hT.lo _ hh.1;omega)]
  rw[Int.toNat_natCast]
  generalize hZ:laN (Q (za f t).pr.toNat) 0=z at *
  have hv':TV.Right { za f t with q:=true,pv:=(z:Int) }:=⟨hv.st,hv.pr,hv.sl,by show 0<=(z:Int)/\(z:Int)<65536;omega,hv.nx,hv.bl,hv.bd,hv.bo,hv.ha,hv.fk,hv.fa⟩
  have w:=yU hT h.thr ht hv'
  have hgz:za (zg f t { za f t with q:=true,pv:=(z:Int) }) z=za f z:=w.ot z hz.1 hzt
  have hvz:=zh (h.thr z hz.1)
  have hv2:TV.Right { za f z with nx:=(t:Int) }:=⟨hvz.st,hvz.pr,hvz.sl,hvz.pv,by show 0<=(t:Int)/\(t:Int)<65536;omega,hvz.bl,hvz.bd,hvz.bo,hvz.ha,hvz.fk,hvz.fa⟩
  unfold zed
  rw[hgz]
  have w2:=yU hT w.ri hz.1 hv2
  generalize hG:zg (zg f t { za f t with q:=true,pv:=(z:Int) }) z { za f z with nx:=(t:Int) }=g at *
  have gme:za g t={ za f t with q:=true,pv:=(z:Int) }:=by rw[w2.ot t ht (fun e=>hzt e.symm),w.me]
  have got:∀ u,T u->u≠t->u≠z->za g u=za f u:=fun u hu h1 h2=>by rw[w2.ot u hu h2,w.ot u hu h1]
  have hhd:hdN (Q (za f t).pr.toNat ++ [t]) 0=hdN (Q (za f t).pr.toNat) 0:=by
   rw[jP]
   cases hQ:Q (za f t).pr.toNat with
   | nil=>exact absurd hQ he
   | cons x r=>rfl
  refine⟨?_,fun u hu=>?_,fun i hi h4 h5=>?_⟩
  ·have:=zeQ hT h hp (g:=g) (l:=Q (za f t).pr.toNat ++ [t]) (fun i hi=>by rw[w2.lo i (by omega),w.lo i (by omega)]) w2.ri (fun u hu=>?_) (fun u hu=>?_) (fun u hu hq2 hpr=>?_) (fun u hu hpr=>?_) (fun u hu hq2=>?_) hnd ?_
   ·rw[hhd,hla]at this;exact this
   ·by_cases e:u=t
    ·subst e;rw[gme]
    ·by_cases e2:u=z
     ·subst e2;rw[w2.me]
     ·rw[got u hu e e2]
   ·rcases List.mem_append.1 hu with hu | hu
    ·obtain⟨m1,m2,m3⟩:=h.el _ u hp hu
     have e:u≠t:=fun e=>hni (e ▸ hu)
     refine⟨m1,m2,?_⟩
     by_cases e2:u=z
     ·subst e2;rw[w2.me];exact m3
     ·rw[got u m1 e e2];exact m3
    ·simp at hu
     subst hu
     exact⟨ht,hpe.symm,by rw[gme]⟩
   ·by_cases e:u=t
    ·subst e;simp
    ·refine List.mem_append.2 (.inl ?_)
     have hq3:(za f u).q=true:=by
      by_cases e2:u=z
      ·subst e2;rw[w2.me]at hq2;exact hq2
      ·rw[got u hu e e2]at hq2;exact hq2
     have:=h.off u hu hq3
     rw[hpr,Int.toNat_natCast]at this
     exact this
   ·refine got u hu (fun e=>hpr (by rw[e];exact hpe.symm)) (fun e=>hpr (by rw[e];exact hz.2.1))
   ·by_cases e:u=t
    ·subst e;rw[gme]at hq2;cases hq2
    ·by_cases e2:u=z
     ·subst e2
      rw[w2.me]at hq2
      have:(za f u).q=false:=hq2
      rw[hz.2.2]at this;cases this
     ·rw[got u hu e e2]at hq2 ⊢;exact h.free u hu hq2
   ·refine j5.2 ⟨zfj (f:=f) (h.nd _ hp) (fun u hu=>?_) (fun u hu hne=>?_) (fun _=>?_) hlk,?_⟩
    ·have m1:=(h.el _ u hp hu).1
     have e:u≠t:=fun e=>hni (e ▸ hu)
     by_cases e2:u=z
     ·subst e2;rw[w2.me]
     ·rw[got u m1 e e2]
    ·have m1:=(h.el _ u hp hu).1
     have e:u≠t:=fun e=>hni (e ▸ hu)
     rw[got u m1 e (by rw[<- hZ];exact hne)]
    ·rw[hZ,w2.me];rfl
    ·show (za g t).pv=(laN _ 0:Int)/\(za g t).nx=(0:Nat)/\True
     rw[gme,hZ]
     exact⟨rfl,f2,trivial⟩
  ·have hu5:=hT.lo u hu
   rw[zbW _ _ _ hp (by omega)]
   by_cases e:u=t
   ·subst e;rw[gme];exact⟨_,_,by rw[decide_eq_true rfl];rfl⟩
   ·by_cases e2:u=z
    ·subst e2;rw[w2.me];exact⟨_,_,by rw[decide_eq_false e];rfl⟩
    ·rw[got u hu e e2];exact⟨_,_,by rw[decide_eq_false e];rfl⟩
  ·rw[jm _ _ _ _ (by omega) (by omega) h4,w2.lo i hi,w.lo i hi]
theorem zmb (hT:Thr T) (h:QInv T f Q) {t:Nat} (ht:T t) (hq:(za f t).q=false) :
  QInv T (z6 f t) (za3 Q (za f t).pr.toNat (t::Q (za f t).pr.toNat))/\(∀ u,T u->∃ pv nx,za (z6 f t) u={ za f u with q:=decide (u=t) || (za f u).q,pv:=pv,nx:=nx }) /\
  ∀ i,i<1024->i≠4->i<8\/(12<=i/\i<256)\/512<=i->z6 f t i=f i:=by
 obtain⟨hp,hpe⟩:=yK h ht
 have hv:=zh (h.thr t ht)
 obtain⟨f1,f2⟩:=h.free t ht hq
 have hni:=zb4 h hq hp
 have htl:=hT.lo t ht
 have hth:=hT.hi t ht
 have hnd:(t::Q (za f t).pr.toNat).Nodup:=List.nodup_cons.2 ⟨hni,h.nd _ hp⟩
 have hhd:hdN (t::Q (za f t).pr.toNat) 0=t:=rfl
 have hlk:=h.lk _ hp
 unfold z6
 rw[zA hT h hp,yd hT h hp]
 by_cases he:Q (za f t).pr.toNat=[]
 ·rw[if_pos (by rw[he];rfl)]
  have hv':TV.Right { za f t with q:=true }:=⟨hv.st,hv.pr,hv.sl,hv.pv,hv.nx,hv.bl,hv.bd,hv.bo,hv.ha,hv.fk,hv.fa⟩
  have w:=yU hT h.thr ht hv'
  have hla:laN (t::Q (za f t).pr.toNat) 0=t:=by rw[he];rfl
  refine⟨?_,fun u hu=>?_,fun i hi h4 h5=>?_⟩
  ·have:=zeQ hT h hp (g:=zg f t { za f t with q:=true }) (l:=t::Q (za f t).pr.toNat) (fun i hi=>w.lo i (by omega)) w.ri (fun u hu=>?_) (fun u hu=>?_) (fun u hu hq2 hpr=>?_) (fun u hu hpr=>?_) (fun u hu hq2=>?_) hnd ?_
   ·rw[hhd,hla]at this;exact this
   ·by_cases e:u=t
    ·subst e;rw[w.me]
    ·rw[w.ot u hu e]
   ·rw[he]at hu
    simp at hu
    subst hu
    exact⟨ht,hpe.symm,by rw[w.me]⟩
   ·by_cases e:u=t
    ·subst e;simp
    ·rw[w.ot u hu e]at hq2
     have:=h.off u hu hq2
     rw[hpr,Int.toNat_natCast,he]at this
     cases this
   ·exact w.ot u hu (fun e=>hpr (by rw[e];exact hpe.symm))
   ·by_cases e:u=t
    ·subst e;rw[w.me]at hq2;cases hq2
    ·rw[w.ot u hu e]at hq2 ⊢;exact h.free u hu hq2
   ·rw[he]
    show (za _ t).pv=(0:Nat)/\(za _ t).nx=(0:Nat)/\True
    rw[w.me]
    exact⟨f1,f2,trivial⟩
  ·have hu5:=hT.lo u hu
   rw[zbW _ _ _ hp (by omega)]
   by_cases e:u=t
   ·subst e;rw[w.me];exact⟨_,_,by rw[decide_eq_true rfl];rfl⟩
   ·rw[w.ot u hu e];exact⟨_,_,by rw[decide_eq_false e];rfl⟩
  ·rw[jm _ _ _ _ (by omega) (by omega) h4,w.lo i hi]
 ·have hz:=h.el _ _ hp (zw (n:=0) he)
  have hzt:hdN (Q (za f t).pr.toNat) 0≠t:=fun e=>by
   have hm:=zw (n:=0) he
   rw[e]at hm
   exact hni hm
  have hzlo:=hT.lo _ hz.1
  have hzhi:=hT.hi _ hz.1
  rw[if_neg (by omega)]
  rw[Int.toNat_natCast]
  generalize hZ:hdN (Q (za f t).pr.toNat) 0=z at *
  have hv':TV.Right { za f t with q:=true,nx:=(z:Int) }:=⟨hv.st,hv.pr,hv.sl,hv.pv,by show 0<=(z:Int)/\(z:Int)<65536;omega,hv.bl,hv.bd,hv.bo,hv.ha,hv.fk,hv.fa⟩
  have w:=yU hT h.thr ht hv'
  have hgz:za (zg f t { za f t with q:=true,nx:=(z:Int) }) z=za f z:=w.ot z hz.1 hzt
  have hvz:=zh (h.thr z hz.1)
  have hv2:TV.Right { za f z with pv:=(t:Int) }:=⟨hvz.st,hvz.pr,hvz.sl,by show 0<=(t:Int)/\(t:Int)<65536;omega,hvz.nx,hvz.bl,hvz.bd,hvz.bo,hvz.ha,hvz.fk,hvz.fa⟩
  unfold zec
  rw[hgz]
  have w2:=yU hT w.ri hz.1 hv2
  generalize hG:zg (zg f t { za f t with q:=true,nx:=(z:Int) }) z { za f z with pv:=(t:Int) }=g at *
  have gme:za g t={ za f t with q:=true,nx:=(z:Int) }:=by rw[w2.ot t ht (fun e=>hzt e.symm),w.me]
  have got:∀ u,T u->u≠t->u≠z->za g u=za f u:=fun u hu h1 h2=>by rw[w2.ot u hu h2,w.ot u hu h1]
  have hla:laN (t::Q (za f t).pr.toNat) 0=laN (Q (za f t).pr.toNat) 0:=laN_nil _ _ he
  refine⟨?_,fun u hu=>?_,fun i hi h4 h5=>?_⟩
  ·have:=zeQ hT h hp (g:=g) (l:=t::Q (za f t).pr.toNat) (fun i hi=>by rw[w2.lo i (by omega),w.lo i (by omega)]) w2.ri (fun u hu=>?_) (fun u hu=>?_) (fun u hu hq2 hpr=>?_) (fun u hu hpr=>?_) (fun u hu hq2=>?_) hnd ?_
   ·rw[hhd,hla]at this;exact this
   ·by_cases e:u=t
    ·subst e;rw[gme]
    ·by_cases e2:u=z
     ·subst e2;rw[w2.me]
     ·rw[got u hu e e2]
   ·rcases List.mem_cons.1 hu with hu | hu
    ·subst hu
     exact⟨ht,hpe.symm,by rw[gme]⟩
    ·obtain⟨m1,m2,m3⟩:=h.el _ u hp hu
     have e:u≠t:=fun e=>hni (e ▸ hu)
     refine⟨m1,m2,?_⟩
     by_cases e2:u=z
     ·subst e2;rw[w2.me];exact m3
     ·rw[got u m1 e e2];exact m3
   ·by_cases e:u=t
    ·subst e;simp
    ·refine List.mem_cons.2 (.inr ?_)
     have hq3:(za f u).q=true:=by
      by_cases e2:u=z
      ·subst e2;rw[w2.me]at hq2;exact hq2
      ·rw[got u hu e e2]at hq2;exact hq2
     have:=h.off u hu hq3
     rw[hpr,Int.toNat_natCast]at this
     exact this
   ·refine got u hu (fun e=>hpr (by rw[e];exact hpe.symm)) (fun e=>hpr (by rw[e];exact hz.2.1))
   ·by_cases e:u=t
    ·subst e;rw[gme]at hq2;cases hq2
    ·by_cases e2:u=z
     ·subst e2
      rw[w2.me]at hq2
      have:(za f u).q=false:=hq2
      rw[hz.2.2]at this;cases this
     ·rw[got u hu e e2]at hq2 ⊢;exact h.free u hu hq2
   ·refine⟨by rw[gme];exact f1,by rw[gme,hZ],zh7 (f:=f) (h.nd _ hp) (fun u hu=>?_) (fun u hu hne=>?_) (fun _=>?_) hlk⟩
    ·have m1:=(h.el _ u hp hu).1
     have e:u≠t:=fun e=>hni (e ▸ hu)
     by_cases e2:u=z
     ·subst e2;rw[w2.me]
     ·rw[got u m1 e e2]
    ·have m1:=(h.el _ u hp hu).1
     have e:u≠t:=fun e=>hni (e ▸ hu)
     rw[got u m1 e (by rw[<- hZ];exact hne)]
    ·rw[hZ,w2.me]
  ·have hu5:=hT.lo u hu
   rw[zbW _ _ _ hp (by omega)]
   by_cases e:u=t
   ·subst e;rw[gme];exact⟨_,_,by rw[decide_eq_true rfl];rfl⟩
   ·by_cases e2:u=z
    ·subst e2;rw[w2.me];exact⟨_,_,by rw[decide_eq_false e];rfl⟩
    ·rw[got u hu e e2];exact⟨_,_,by rw[decide_eq_false e];rfl⟩
  ·rw[jm _ _ _ _ (by omega) (by omega) h4,w2.lo i hi,w.lo i hi]
theorem drop_g (hT:Thr T) (h:QInv T f Q) {t:Nat} (ht:T t) (hq:(za f t).q=true) :
  (∃ a b,Q (za f t).pr.toNat=a ++ t::b/\QInv T (zZ f t) (za3 Q (za f t).pr.toNat (a ++ b)))/\(∀ u,T u->∃ pv nx,za (zZ f t) u={ za f u with q:=!decide (u=t) && (za f u).q,pv:=pv,nx:=nx }) /\
  ∀ i,i<1024->i≠4->i<8\/(12<=i/\i<256)\/512<=i->zZ f t i=f i:=by
 obtain⟨hp,hpe⟩:=yK h ht
 have hv:=zh (h.thr t ht)
 have hm:=h.off t ht hq
 obtain⟨a,b,hab⟩:=List.append_of_mem hm
 have hnd:=h.nd _ hp
 have hlk:=h.lk _ hp
 have htl:=hT.lo t ht
 have hth:=hT.hi t ht
 rw[hab]at hnd hlk
 obtain⟨na,nb,nab⟩:=List.nodup_append.1 hnd
 have nb':=List.nodup_cons.1 nb
 have nta:t∉a:=fun hx=>nab t hx t (by simp) rfl
 have ntb:t∉b:=nb'.1
 obtain⟨lka,lkt⟩:=j5.1 hlk
 obtain⟨epv,enx,lkb⟩:=lkt
 have ma:∀ u,u∈a->u∈Q (za f t).pr.toNat:=fun u hu=>by rw[hab];simp[hu]
 have mb:∀ u,u∈b->u∈Q (za f t).pr.toNat:=fun u hu=>by rw[hab];simp[hu]
 have dab:∀ u,u∈a->u∉b:=fun u hu hv=>nab u hu u (by simp[hv]) rfl
 -- the words of the other threads,step by step
 have hA:(∀ i,i<1024->ziF f t i=f i)/\(∀ u,T u->RightAt (ziF f t) u)/\(∀ u,T u->za (ziF f t) u=if a≠[]/\u=laN a 0 then { za f u with nx:=(hdN b 0:Int) } else za f u):=by
  unfold ziF
  by_cases e:a=[]
  ·subst e
   rw[if_pos (by rw[epv];rfl)]
   exact⟨fun _ _=>rfl,h.thr,fun u hu=>by simp⟩
  ·have hz:=h.el _ _ hp (ma _ (zu (p:=0) e))
   have hzlo:=hT.lo _ hz.1
   rw[if_neg (by rw[epv];omega)]
   unfold zed
   rw[epv,Int.toNat_natCast,enx]
   have hvz:=zh (h.thr _ hz.1)
   have hb:hdN b 0<65536:=by
    by_cases e2:b=[]
    ·rw[e2];show 0<65536;decide
    ·have:=hT.hi _ (h.el _ _ hp (mb _ (zw (n:=0) e2))).1;omega
   have w:=yU hT h.thr hz.1 (v:={ za f (laN a 0) with nx:=(hdN b 0:Int) }) ⟨hvz.st,hvz.pr,hvz.sl,hvz.pv,by show 0<=(hdN b 0:Int)/\(hdN b 0:Int)<65536;omega,hvz.bl,hvz.bd,hvz.bo,hvz.ha,hvz.fk,hvz.fa⟩
   refine⟨w.lo,w.ri,fun u hu=>?_⟩
   by_cases e2:u=laN a 0
   ·rw[if_pos ⟨e,e2⟩,e2,w.me]
   ·rw[if_neg (fun h=>e2 h.2),w.ot u hu e2]
 obtain⟨aLo,aRi,aG⟩:=hA
 have hB:(∀ i,i<1024->zkS f t i=f i)/\(∀ u,T u->RightAt (zkS f t) u)/\(∀ u,T u->za (zkS f t) u=if b≠[]/\u=hdN b 0 then { za f u with pv:=(laN a 0:Int) } else if a≠[]/\u=laN a 0 then { za f u with nx:=(hdN b 0:Int) } else za f u):=by
  unfold zkS
  by_cases e:b=[]
  ·subst e
   rw[if_pos (by rw[enx];rfl)]
   exact⟨aLo,aRi,fun u hu=>by rw[aG u hu];simp⟩
  ·have hz:=h.el _ _ hp (mb _ (zw (n:=0) e))
   have hzlo:=hT.lo _ hz.1
   rw[if_neg (by rw[enx];omega)]
   unfold zec
   rw[enx,Int.toNat_natCast,epv]
   have hne:¬ (a≠[]/\hdN b 0=laN a 0):=fun hh=>dab _ (by rw[hh.2];exact zu hh.1) (zw e)
   have hvz:=zh (h.thr _ hz.1)
   have hb:laN a 0<65536:=by
    by_cases e2:a=[]
    ·rw[e2];show 0<65536;decide
    ·have:=hT.hi _ (h.el _ _ hp (ma _ (zu (p:=0) e2))).1;omega
   rw[aG _ hz.1,if_neg hne]
   have w:=yU hT aRi hz.1 (v:={ za f (hdN b 0) with pv:=(laN a 0:Int) }) ⟨hvz.st,hvz.pr,hvz.sl,by show 0<=(laN a 0:Int)/\(laN a 0:Int)<65536;omega,hvz.nx,hvz.bl,hvz.bd,hvz.bo,hvz.ha,hvz.fk,hvz.fa⟩
   refine⟨fun i hi=>by rw[w.lo i hi,aLo i hi],w.ri,fun u hu=>?_⟩
   by_cases e2:u=hdN b 0
   ·rw[if_pos ⟨e,e2⟩,e2,w.me]
   ·rw[if_neg (fun h=>e2 h.2),w.ot u hu e2,aG u hu]
 obtain⟨bLo,bRi,bG⟩:=hB
 have hvt:TV.Right { za f t with q:=false,pv:=0,nx:=0 }:=zae hv false (by omega) (by omega)
 have w:=yU hT bRi ht hvt
 generalize hG:zg (zkS f t) t { za f t with q:=false,pv:=0,nx:=0 }=g at *
 have gme:za g t={ za f t with q:=false,pv:=0,nx:=0 }:=w.me
 have gG:∀ u,T u->u≠t->za g u=if b≠[]/\u=hdN b 0 then { za f u with pv:=(laN a 0:Int) } else if a≠[]/\u=laN a 0 then { za f u with nx:=(hdN b 0:Int) } else za f u:=fun u hu hne=>by rw[w.ot u hu hne,bG u hu]
 have hhd:(if zl f (za f t).pr.toNat=t then (za f t).nx else zl f (za f t).pr.toNat)=(hdN (a ++ b) 0:Int):=by
  rw[zA hT h hp,hab,jP,jP,enx]
  cases a with
  | nil=>exact if_pos rfl
  | cons x r=>
   refine if_neg (fun e=>nta ?_)
   have e:x=t:=by exact_mod_cast e
   rw[<- e];simp
 have hla:(if zx f (za f t).pr.toNat=t then (za f t).pv else zx f (za f t).pr.toNat)=(laN (a ++ b) 0:Int):=by
  rw[yd hT h hp,hab,jM,jM,epv]
  cases b with
  | nil=>exact if_pos rfl
  | cons x r=>
   have e1:laN (t::x::r) (laN a 0)=laN (x::r) (laN a 0):=rfl
   rw[e1]
   refine if_neg (fun e=>ntb ?_)
   have e:laN (x::r) (laN a 0)=t:=by exact_mod_cast e
   have:=zu (l:=x::r) (p:=laN a 0) (by simp)
   rw[e]at this;exact this
 have zaf:∀ u,T u->∃ pv nx,za g u={ za f u with q:=!decide (u=t) && (za f u).q,pv:=pv,nx:=nx }:=fun u hu=>by
  by_cases e:u=t
  ·subst e;rw[gme];exact⟨_,_,by rw[decide_eq_true rfl];rfl⟩
  ·rw[gG u hu e,decide_eq_false e]
   split
   ·exact⟨_,_,rfl⟩
   ·split
    ·exact⟨_,_,rfl⟩
    ·exact⟨_,_,rfl⟩
 refine⟨⟨a,b,hab,?_⟩,fun u hu=>?_,fun i hi h4 h5=>?_⟩
 ·unfold zZ
  rw[hG,hhd,hla]
  refine zeQ hT h hp (fun i hi=>by rw[w.lo i (by omega),bLo i (by omega)]) w.ri (fun u hu=>?_) (fun u hu=>?_) (fun u hu hq2 hpr=>?_) (fun u hu hpr=>?_) (fun u hu hq2=>?_) (List.nodup_append.2 ⟨na,nb'.2,fun x hx y hy e=>dab x hx (e ▸ hy)⟩) ?_
  ·obtain⟨pv,nx,e⟩:=zaf u hu;rw[e]
  ·have hu2:u∈Q (za f t).pr.toNat:=by
    rcases List.mem_append.1 hu with hu | hu
    ·exact ma u hu
    ·exact mb u hu
   obtain⟨m1,m2,m3⟩:=h.el _ u hp hu2
   have e:u≠t:=fun e=>by
    subst e
    rcases List.mem_append.1 hu with hu | hu
    ·exact nta hu
    ·exact ntb hu
   obtain⟨pv,nx,e2⟩:=zaf u m1
   exact⟨m1,m2,by rw[e2,decide_eq_false e];exact m3⟩
  ·obtain⟨pv,nx,e2⟩:=zaf u hu
   by_cases e:u=t
   ·subst e;rw[gme]at hq2;cases hq2
   ·rw[e2,decide_eq_false e]at hq2
    have:=h.off u hu hq2
    rw[hpr,Int.toNat_natCast,hab]at this
    rcases List.mem_append.1 this with h1 | h1
    ·exact List.mem_append.2 (.inl h1)
    ·rcases List.mem_cons.1 h1 with h1 | h1
     ·exact absurd h1 e
     ·exact List.mem_append.2 (.inr h1)
  ·have e:u≠t:=fun e=>hpr (by rw[e];exact hpe.symm)
   rw[gG u hu e,if_neg,if_neg]
   ·exact fun hh=>hpr (by rw[hh.2];exact(h.el _ _ hp (ma _ (zu hh.1))).2.1)
   ·exact fun hh=>hpr (by rw[hh.2];exact(h.el _ _ hp (mb _ (zw hh.1))).2.1)
  ·by_cases e:u=t
   ·subst e;rw[gme];exact⟨rfl,rfl⟩
   ·obtain⟨pv,nx,e2⟩:=zaf u hu
    have hq3:(za f u).q=false:=by rw[e2,decide_eq_false e]at hq2;exact hq2
    rw[gG u hu e,if_neg,if_neg]
    ·exact h.free u hu hq3
    ·exact fun hh=>by
      have:=(h.el _ _ hp (ma _ (zu (p:=0) hh.1))).2.2
      rw[<- hh.2,hq3]at this;cases this
    ·exact fun hh=>by
      have:=(h.el _ _ hp (mb _ (zw (n:=0) hh.1))).2.2
      rw[<- hh.2,hq3]at this;cases this
  ·have ga:∀ u,u∈a->za g u=if a≠[]/\u=laN a 0 then { za f u with nx:=(hdN b 0:Int) } else za f u:=fun u hu=>by
    rw[gG u (h.el _ u hp (ma u hu)).1 (fun e=>nta (e ▸ hu)),if_neg]
    exact fun hh=>dab u hu (by rw[hh.2];exact zw hh.1)
   have gb:∀ u,u∈b->za g u=if b≠[]/\u=hdN b 0 then { za f u with pv:=(laN a 0:Int) } else za f u:=fun u hu=>by
    rw[gG u (h.el _ u hp (mb u hu)).1 (fun e=>ntb (e ▸ hu))]
    split
    ·rfl
    ·rw[if_neg]
     exact fun hh=>dab u (by rw[hh.2];exact zu hh.1) hu
   refine j5.2 ⟨zfj (f:=f) na (fun u hu=>?_) (fun u hu hne=>?_) (fun hne=>?_) lka,zh7 (f:=f) nb'.2 (fun u hu=>?_) (fun u hu hne=>?_) (fun hne=>?_) lkb⟩
   ·rw[ga u hu];split <;> rfl
   ·rw[ga u hu,if_neg (fun hh=>hne hh.2)]
   ·rw[ga _ (zu hne),if_pos ⟨hne,rfl⟩]
   ·rw[gb u hu];split <;> rfl
   ·rw[gb u hu,if_neg (fun hh=>hne hh.2)]
   ·rw[gb _ (zw hne),if_pos ⟨hne,rfl⟩]
 ·have hu5:=hT.lo u hu
  unfold zZ
  rw[zbW _ _ _ hp (by omega),hG]
  exact zaf u hu
 ·unfold zZ
  rw[jm _ _ _ _ (by omega) (by omega) h4,hG,w.lo i hi,bLo i hi]
end Go.Ev
end
set_option linter.unusedSimpArgs false
set_option linter.unusedVariables false
noncomputable section
namespace Go.Ev
open Go
theorem zh0:∀ (f x:Nat),x<2 ^ f->x≠0->1<=Lib.bitLenAux f x/\2 ^ (Lib.bitLenAux f x - 1)<=x/\x<2 ^ Lib.bitLenAux f x
 | 0,x,h,h0=>by simp at h;exact absurd h h0
 | f+1,x,h,h0=>by
  have e:Lib.bitLenAux (f+1) x=1+Lib.bitLenAux f (x / 2):=by show (if x=0 then 0 else _)=_;rw[if_neg h0]
  rw[e]
  by_cases h1:x / 2=0
  ·have hx:x=1:=by omega
   subst hx
   have:Lib.bitLenAux f (1 / 2)=0:=by cases f <;> simp[Lib.bitLenAux]
   rw[this]
   exact⟨by omega,by decide,by decide⟩
  ·obtain⟨a,b,c⟩:=zh0 f (x / 2) (by rw[Nat.pow_succ]at h;omega) h1
   refine⟨by omega,?_,?_⟩
   ·have:2 ^ (1+Lib.bitLenAux f (x / 2) - 1)=2*2 ^ (Lib.bitLenAux f (x / 2) - 1):=by
     rw[show 1+Lib.bitLenAux f (x / 2) - 1=(Lib.bitLenAux f (x / 2) - 1)+1 from by omega,Nat.pow_succ,Nat.mul_comm]
    rw[this];omega
   ·rw[Nat.add_comm,Nat.pow_succ];omega
theorem bl_top {x:Nat} (h:x<18446744073709551616) (h0:x≠0):1<=Lib.bitLen x/\Nat.testBit x (Lib.bitLen x - 1)=true/\∀ i,Lib.bitLen x<=i->Nat.testBit x i=false:=by
 obtain⟨a,b,c⟩:=zh0 64 x (by omega) h0
 refine⟨a,?_,fun i hi=>Nat.testBit_lt_two_pow (Nat.lt_of_lt_of_le c (Nat.pow_le_pow_right (by decide) hi))⟩
 have c':x<2 ^ (Lib.bitLen x - 1)*2:=by
  rw[<- Nat.pow_succ,show (Lib.bitLen x - 1).succ=Lib.bitLen x from by show Lib.bitLen x - 1+1=_;have:1<=Lib.bitLen x:=a;omega]
  exact c
 have hp:0<2 ^ (Lib.bitLen x - 1):=Nat.two_pow_pos _
 have hd:x / 2 ^ (Lib.bitLen x - 1)=1:=by
  have h1:1<=x / 2 ^ (Lib.bitLen x - 1):=(Nat.le_div_iff_mul_le hp).2 (by rw[Nat.one_mul];exact b)
  have h2:x / 2 ^ (Lib.bitLen x - 1)<2:=(Nat.div_lt_iff_lt_mul hp).2 (by rw[Nat.mul_comm];exact c')
  omega
 rw[Nat.testBit_eq_decide_div_mod_eq,hd]
 rfl
variable {T:Nat->Prop} {f:Nat->Int} {Q:Nat->List Nat}
inductive Top (Q:Nat->List Nat):Option Nat->Prop where
 | none:(∀ p,p<256->Q p=[])->Top Q none
 | some (p:Nat):p<256->Q p≠[]->(∀ q,p<q->q<256->Q q=[])->Top Q (some p)
theorem zrs (h:QInv T f Q) (h0:f 4=0):Top Q none:=by
 refine .none fun p hp=>?_
 obtain⟨s0,s1,s3⟩:=h.sm
 obtain⟨b0,b1,b3⟩:=h.bm (p / 64) (by omega)
 have e:=s3 (p / 64) (by omega)
 rw[h0]at e
 have e:(!decide (f (8+p / 64)=0))=false:=by rw[<- e];simp
 have e0:f (8+p / 64)=0:=by simpa using e
 have e2:=b3 (p % 64) (by omega)
 rw[e0,show 64*(p / 64)+p % 64=p from by omega]at e2
 have:(!(Q p).isEmpty)=false:=by rw[<- e2];simp
 simpa using this
theorem zrt (h:QInv T f Q) (h0:f 4≠0):∃ g k,g<4/\k<64/\Lib.bitLen (f 4).toNat=g+1/\f (8+g)≠0/\Lib.bitLen (f (8+g)).toNat=k+1/\Top Q (some (64*g+k)):=by
 obtain⟨s0,s1,s3⟩:=h.sm
 obtain⟨a,b,c⟩:=bl_top (x:=(f 4).toNat) (by omega) (by omega)
 have hg:Lib.bitLen (f 4).toNat - 1<4:=by
  rcases Nat.lt_or_ge (Lib.bitLen (f 4).toNat - 1) 4 with h1 | h1
  ·exact h1
  ·have h16:(2:Nat) ^ 4=16:=rfl
   rw[Nat.testBit_lt_two_pow (Nat.lt_of_lt_of_le (show (f 4).toNat<2 ^ 4 by omega) (Nat.pow_le_pow_right (by decide) h1))]at b
   cases b
 generalize hgg:Lib.bitLen (f 4).toNat - 1=g at *
 have e:=s3 g hg
 rw[b]at e
 have hw:f (8+g)≠0:=by simpa using e.symm
 obtain⟨b0,b1,b3⟩:=h.bm g hg
 obtain⟨a2,t2,c2⟩:=bl_top (x:=(f (8+g)).toNat) (by omega) (by omega)
 have hk:Lib.bitLen (f (8+g)).toNat - 1<64:=by
  have h64:(2:Nat) ^ 64=18446744073709551616:=by decide
  have:=Lib.bitLen_le (f (8+g)).toNat 64 (by omega) (by omega)
  omega
 generalize hkk:Lib.bitLen (f (8+g)).toNat - 1=k at *
 refine⟨g,k,hg,hk,by omega,hw,by omega,.some _ (by omega) ?_ fun q h1 h2=>?_⟩
 ·have:=b3 k hk
  rw[t2]at this
  intro e
  rw[e]at this
  cases this
 ·by_cases hq:q / 64=g
  ·have e:=b3 (q % 64) (by omega)
   rw[show 64*g+q % 64=q from by omega,c2 _ (by omega)]at e
   simpa using e.symm
  ·have e:=s3 (q / 64) (by omega)
   rw[c _ (by omega)]at e
   have e0:f (8+q / 64)=0:=by simpa using e.symm
   obtain⟨_,_,b4⟩:=h.bm (q / 64) (by omega)
   have e2:=b4 (q % 64) (by omega)
   rw[e0,show 64*(q / 64)+q % 64=q from by omega]at e2
   have:(!(Q q).isEmpty)=false:=by rw[<- e2];simp
   simpa using this
end Go.Ev
end
set_option linter.unusedSimpArgs false
set_option linter.unusedVariables false
noncomputable section
namespace Go.Ev
open Go Go.RowKit
variable {E E':Env} {P:Program}
def anyF (es:List Ent) (F:Nat):Bool:=jE false (fun e _ ih=>bc (Nat.beq e.F F) true ih) es
def zkx (o:Nat) (es:List Ent) (q:Nat):Option Ent:=bc (Nat.ble o q) (nth es (Nat.sub q o)) none
def mtK (c:MC) (tbl:Nat->Option Ent) (F:Nat):List V->H->Fa->K->Nat:=fun l h fa k=>mtH c tbl (fun _ _ _ _ _=>1) F l h fa k
structure PEnt where
 F:Nat
 l:List V
 v:V
def zi4 (ps:List PEnt) (F:Nat) (l:List V):Option V:=jE none (fun e _ ih=>bc (Nat.beq e.F F) (bc (jG l e.l) (some e.v) ih) ih) ps
def puK (ps:List PEnt) (F:Nat):List V->H->Fa->K->Nat:=fun l h fa k=>oc (zi4 ps F l) (fun v=>k v h fa) 1
def anyP (ps:List PEnt) (F:Nat):Bool:=jE false (fun e _ ih=>bc (Nat.beq e.F F) true ih) ps
def cxM (C:Cx) (c:MC) (o:Nat) (es:List Ent) (ps:List PEnt):Cx:=⟨C.fn,fun F=>bc (anyF es F) (some (mtK c (zkx o es) F)) (bc (anyP ps F) (some (puK ps F)) (C.hook F)),C.fuel⟩
structure PEntOk (P:Program) (E:Env) (e:PEnt):Prop where
 bd:e.v.bd 0
 ca:j6 P e.F
 ok:∀ (ρ:Rho) (w:World),Calls P e.F (γL E ρ e.l).toArray w fun ex w'=>ex=.returned (e.v.γ E ρ)/\Below w.heap.size w w'
def zaW (P:Program) (c:MC) (E:Env):Nat->List Ent->Prop
 | _,[]=>True
 | q,e::r=>zfl P c E q e/\zaW P c E (q+1) r
theorem zhR {c:MC}:∀ {es:List Ent} {o:Nat},zaW P c E o es->∀ (i:Nat) (e:Ent),es[i]? = some e->zfl P c E (o+i) e
 | [],o,_,i,e,h=>by simp at h
 | x::r,o,h,0,e,he=>by
  simp at he
  subst he
  exact h.1
 | x::r,o,h,i+1,e,he=>by
  have:=zhR (es:=r) h.2 i e (by simpa using he)
  rw[show o+1+i=o+(i+1) from by omega]at this
  exact this
theorem zo6 {c:MC} {o:Nat} {es:List Ent} (h:zaW P c E o es):∀ q e,zkx o es q=some e->zfl P c E q e:=by
 intro q e hq
 unfold zkx at hq
 obtain⟨h1,h2⟩:=zbM hq
 have h1:o<=q:=by simpa using h1
 rw[jD]at h2
 have:=zhR h _ e h2
 rw[show o+Nat.sub q o=q from by show o+(q - o)=q;omega]at this
 exact this
theorem zhq:∀ {ps:List PEnt} {F:Nat} {l:List V} {v:V},zi4 ps F l=some v->∃ e∈ps,e.F=F/\e.l=l/\e.v=v
 | [],F,l,v,h=>by cases h
 | e::r,F,l,v,h=>by
  have h:bc (Nat.beq e.F F) (bc (jG l e.l) (some e.v) (zi4 r F l)) (zi4 r F l)=some v:=h
  cases h1:Nat.beq e.F F with
  | false=>
   rw[h1]at h
   obtain⟨x,hx,h2⟩:=zhq (ps:=r) h
   exact⟨x,List.mem_cons_of_mem _ hx,h2⟩
  | true=>
   rw[h1]at h
   have h:bc (jG l e.l) (some e.v) (zi4 r F l)=some v:=h
   cases h2:jG l e.l with
   | false=>
    rw[h2]at h
    obtain⟨x,hx,h2⟩:=zhq (ps:=r) h
    exact⟨x,List.mem_cons_of_mem _ hx,h2⟩
   | true=>
    rw[h2]at h
    exact⟨e,List.mem_cons_self ..,by simpa using h1,(jX h2).symm,Option.some.inj h⟩
theorem puK_ok {ps:List PEnt} (hp:∀ e∈ps,PEntOk P E e) (F:Nat):zk E P (fun G l h fa k=>bc (Nat.beq G F) (puK ps F l h fa k) 1):=by
 intro G l h fa k hk hfa
 obtain⟨hG,hk2⟩:=zK (show bc (Nat.beq G F) (puK ps F l h fa k) 1=0 from hk) (by simp)
 have hG:G=F:=by simpa using hG
 subst hG
 obtain⟨v,hv,hk3⟩:=z9 (show oc (zi4 ps G l) (fun v=>k v h fa) 1=0 from hk2) (by simp)
 obtain⟨e,he,rfl,rfl,rfl⟩:=zhq hv
 obtain⟨b,ca,ok⟩:=hp e he
 refine⟨ca,e.v,h,fa,hk3,hfa,fun ρ w hb hs=>(ok ρ w).mono ?_⟩
 rintro ex w' ⟨he,hb'⟩
 refine⟨ρ,he,⟨fun p o hp=>O.Is_heap E (fun hl=>hb'.block _ (hs.lt E hp hl)) (hs.obj p o hp),hs.inj,hs.bd⟩,?_,bd_mono (Nat.zero_le _) _ b⟩
 exact⟨Nat.le_refl _,rfl,fun _ _=>rfl,fun p o h1 h2=>by have:=(hs.bd p o h2).1;omega,hb'.os,hb'.tape,hb'.output,hb'.size,fun b hb _=>hb'.block b hb,fun _ _ _=>rfl,fun p o _ h1 h2=>⟨o,h1,h2⟩⟩
theorem mtK_ok {c:MC} {tbl:Nat->Option Ent} (ht:∀ q e,tbl q=some e->zfl P c E q e) (F:Nat):zk E P (fun G l h fa k=>bc (Nat.beq G F) (mtK c tbl F l h fa k) 1):=by
 intro G l h fa k hk hfa
 obtain⟨hG,hk2⟩:=zK (show bc (Nat.beq G F) (mtK c tbl F l h fa k) 1=0 from hk) (by simp)
 have hG:G=F:=by simpa using hG
 subst hG
 exact mtH_ok ht (inner:=fun _ _ _ _ _=>1) (fun _ _ _ _ _ h=>by cases h) _ _ _ _ _ (show mtH c tbl (fun _ _ _ _ _=>1) G l h fa k=0 from hk2) hfa
theorem zhW {Y:Ty} {C:Cx} (hC:CxOk E P Y C) {c:MC} {o:Nat} {es:List Ent} {ps:List PEnt} (he:zaW P c E o es) (hp:∀ e∈ps,PEntOk P E e):CxOk E P Y (cxM C c o es ps):=by
 refine⟨hC.ty,hC.mixed,hC.fn,fun F s hs=>?_⟩
 have hs:bc (anyF es F) (some (mtK c (zkx o es) F)) (bc (anyP ps F) (some (puK ps F)) (C.hook F))=some s:=hs
 cases h1:anyF es F with
 | true=>
  rw[h1]at hs
  have hs:=Option.some.inj (show some (mtK c (zkx o es) F)=some s from hs)
  subst hs
  exact mtK_ok (zo6 he) F
 | false=>
  rw[h1]at hs
  have hs:bc (anyP ps F) (some (puK ps F)) (C.hook F)=some s:=hs
  cases h2:anyP ps F with
  | true=>
   rw[h2]at hs
   have hs:=Option.some.inj (show some (puK ps F)=some s from hs)
   subst hs
   exact puK_ok hp F
  | false=>
   rw[h2]at hs
   exact hC.hook F s hs
def jA (N:Nat) (st:Int) (vs:Nat->Int) (rows:Nat->Nat->Int):Env:=⟨fun i=>if i=5 then st else vs i,fun _=>false,fun q=>zej N (rows q)⟩
def zJ (P:Program) (c:MC) (F:Nat) (args:List Value) (f:Nat->Int) (v:Value) (f':Nat->Int):Prop:=∃ k,1<=k/\zaO P c F args f v f' k
theorem ent_x {c:MC} {st:Int} {vs:Nat->Int} {rows:Nat->Nat->Int} {q k:Nat} {e:Ent} {args:List Value} {ret:Value} (ha:∀ ρ,γL (jA c.N st vs rows) ρ e.l=args) (hv:∀ ρ,e.v.γ (jA c.N st vs rows) ρ=ret)
  (h1:1<=k) (hk:e.k.den (jA c.N st vs rows)=(k:Nat)) (hm:zaO P c e.F args (rows q) ret (rows e.q') k):zfl P c (jA c.N st vs rows) q e:=
 ⟨rows q,rows e.q',k,h1,hk,jU _ _,jU _ _,fun ρ=>by rw[ha ρ,hv ρ];exact hm⟩
theorem zc {st:Int} {a b:SE} {k m:Nat} (ha:a.den E=za9 st k) (hb:b.den E=(m:Nat)) (hm:1<=m):SE.den E (.op .add .i64 a b)=za9 st (k+m):=by
 show jN .i64 (a.den E+b.den E)=_
 unfold za9 at ha ⊢
 rw[if_neg (show ¬ k+m=0 by omega),ha,hb]
 show _=jN .i64 (st+((k+m:Nat):Int))
 by_cases h:k=0
 ·rw[if_pos h,h];simp
 ·rw[if_neg h]
  show jN .i64 (jN .i64 (st+(k:Int))+(m:Int))=_
  rw[z8,z8,z8,IntKind.wrap_i64,IntKind.wrap_i64,IntKind.wrap_i64]
  omega
def yP (C:Cx) (c:MC) (es:List Ent) (ps:List PEnt) (F:Nat) (l:List V) (fa:Fa) (v:V) (q':Nat) (sE:SE):Nat:=zaM (cxM C c 0 es ps) 20 F (.ptr (.o .h) 0::l) (hMem c 0 .nil) fa (okM c v q' .nil sE)
theorem zD {Y:Ty} {C:Cx} (hC:∀ E,CxOk E P Y C) {c:MC} (hN:c.N<=8192) {F:Nat} {es:List Ent} {ps:List PEnt} {l:List V} {fa:Fa} {v:V} {q' k:Nat} {sE:SE} {args:List Value} {ret:Value} (hr:yP C c es ps F l fa v q' sE=0) (hl:zcJ .h l=true)
  (vs:Nat->Int) (rows:Nat->Nat->Int)
  (hE:∀ st:Int,sE.den (jA c.N st vs rows)=za9 st k/\FaOk (jA c.N st vs rows) fa/\zaW P c (jA c.N st vs rows) 0 es/\(∀ e∈ps,PEntOk P (jA c.N st vs rows) e)/\(∀ ρ,γL (jA c.N st vs rows) ρ l=args)/\∀ ρ,v.γ (jA c.N st vs rows) ρ=ret) :
  zaO P c F args (rows 0) ret (rows q') k:=
 zck hN (zc1 (n:=.h) l hl) (fun i v _ hv=>by rw[Tr.get_nil]at hv;cases hv) (fun st=>by
  obtain⟨h0,h1,h2,h3,h4,h5⟩:=hE st
  exact⟨jA c.N st vs rows,rfl,h0,jq (zhW (hC _) h2 h3) 20,h1,zcC (jU _ _),zcC (jU _ _),h4,h5⟩) hr
def rdS (a:Nat):Sm:=⟨[.one (.i .i64 (.ofNat a))],[(a,100)],[],.tup [.one (.s .u64 (.v 100)),.one (.i .i64 0)],[],1⟩
def wrS (a:Nat):Sm:=⟨[.one (.i .i64 (.ofNat a)),.one (.w .u64 10)],[],[],.one (.one (.i .i64 0)),[(a,.s .u64 (.v 10))],1⟩
theorem zko {c:MC} {F:Nat} {zN:z3} (hc:∀ E,zk E P zN) {a:Nat} (hwf:(rdS a).wf c=true) (hr:(rdS a).run c F zN=0) (f:Nat->Int) :
  zaO P c F [.int .i64 a] f (.tuple #[.int .u64 (f a),.int .i64 0]) f 1:=
 zbq (s:=rdS a) hwf rfl hr fun st=>⟨jA c.N st (fun _=>f a) (fun _=>f),rfl,hc _,⟨fun _ _ h=>(by cases h),fun _ _ _ h=>(by cases h)⟩,jU _ _,fun p hp=>by
  have:p=(a,100):=by simpa [rdS] using hp
  subst this;rfl,rfl,fun ρ=>rfl,fun ρ=>rfl⟩
theorem zgq {c:MC} {F:Nat} {zN:z3} (hc:∀ E,zk E P zN) {a:Nat} (hwf:(wrS a).wf c=true) (hr:(wrS a).run c F zN=0) (f:Nat->Int) (x:Int) :
  zaO P c F [.int .i64 a,.int .u64 x] f (.int .i64 0) (upd f a x) 1:=
 zbq (s:=wrS a) hwf rfl hr fun st=>⟨jA c.N st (fun _=>x) (fun _=>f),rfl,hc _,⟨fun _ _ h=>(by cases h),fun _ _ _ h=>(by cases h)⟩,jU _ _,fun p hp=>(by cases hp),rfl,fun ρ=>rfl,fun ρ=>rfl⟩
end Go.Ev
end
set_option linter.unusedSimpArgs false
set_option linter.unusedVariables false
noncomputable section
namespace Go.Ev
open Go
variable {E:Env} {P:Program}
def ym (v:TV) (r:Nat->Int) (j:Nat):Int:=match j with
 | 0=>v.st | 1=>v.pr | 2=>v.sl | 3=>b2 v.q | 4=>v.pv | 5=>v.nx | 6=>v.bl | 7=>v.bd | 8=>b2 v.g | 9=>b2 v.c | 10=>v.bo | 11=>v.ha | 12=>v.fk | 13=>v.fa | n+14=>r n
theorem sbq {i:Nat} {b:Bool} (h:E.i i=b2 b):SB.den E (.cmp .eql (.v i) (.lit 1))=b:=by
 show iEq (E.i i) 1=b
 rw[h]
 cases b <;> rfl
theorem vsb {c:SB} {b:Bool} {ρ:Rho} (h:c.den E=b):(V.sb c).γ E ρ=.bool b:=congrArg Value.bool h
theorem vsi {k:IntKind} {e:SE} {x:Int} {ρ:Rho} (h:e.den E=x):(V.si k e).γ E ρ=.int k x:=congrArg (Value.int k) h
theorem thG {ρ:Rho} {x0 x1 x2 x3 x4 x5 x6 x7 x8 x9 x10 x11 x12 x13 y0 y1 y2 y3 y4 y5 y6 y7 y8 y9 y10 y11 y12 y13 y14 y15:V} {v:TV} {r:Nat->Int} (h0:x0.γ E ρ=.int .i64 v.st) (h1:x1.γ E ρ=.int .i64 v.pr) (h2:x2.γ E ρ=.int .i64 v.sl) (h3:x3.γ E ρ=.bool v.q) (h4:x4.γ E ρ=.int .i64 v.pv) (h5:x5.γ E ρ=.int .i64 v.nx) (h6:x6.γ E ρ=.int .i64 v.bl) (h7:x7.γ E ρ=.int .i64 v.bd) (h8:x8.γ E ρ=.bool v.g) (h9:x9.γ E ρ=.bool v.c) (h10:x10.γ E ρ=.int .i64 v.bo) (h11:x11.γ E ρ=.int .i64 v.ha) (h12:x12.γ E ρ=.int .i64 v.fk) (h13:x13.γ E ρ=.int .i64 v.fa)
  (k0:y0.γ E ρ=.int .u64 (r 0)) (k1:y1.γ E ρ=.int .u64 (r 1)) (k2:y2.γ E ρ=.int .u64 (r 2)) (k3:y3.γ E ρ=.int .u64 (r 3)) (k4:y4.γ E ρ=.int .u64 (r 4)) (k5:y5.γ E ρ=.int .u64 (r 5)) (k6:y6.γ E ρ=.int .u64 (r 6)) (k7:y7.γ E ρ=.int .u64 (r 7)) (k8:y8.γ E ρ=.int .u64 (r 8)) (k9:y9.γ E ρ=.int .u64 (r 9)) (k10:y10.γ E ρ=.int .u64 (r 10)) (k11:y11.γ E ρ=.int .u64 (r 11)) (k12:y12.γ E ρ=.int .u64 (r 12)) (k13:y13.γ E ρ=.int .u64 (r 13)) (k14:y14.γ E ρ=.int .u64 (r 14)) (k15:y15.γ E ρ=.int .u64 (r 15)) :
  (V.agg [x0,x1,x2,x3,x4,x5,x6,x7,x8,x9,x10,x11,x12,x13,y0,y1,y2,y3,y4,y5,y6,y7,y8,y9,y10,y11,y12,y13,y14,y15]).γ E ρ=thV v r:=by
 simp only[V.γ,γL,thV,h0,h1,h2,h3,h4,h5,h6,h7,h8,h9,h10,h11,h12,h13,k0,k1,k2,k3,k4,k5,k6,k7,k8,k9,k10,k11,k12,k13,k14,k15]
theorem thA {ρ:Rho} {x0 x1 x2 x3 x4 x5 x6 x7 x8 x9 x10 x11 x12 x13 y0 y1 y2 y3 y4 y5 y6 y7 y8 y9 y10 y11 y12 y13 y14 y15:V} {v:TV} {r:Nat->Int} (h0:x0.γ E ρ=.int .i64 v.st:=by exact rfl) (h1:x1.γ E ρ=.int .i64 v.pr:=by exact rfl) (h2:x2.γ E ρ=.int .i64 v.sl:=by exact rfl) (h3:x3.γ E ρ=.bool v.q:=by exact vsb (sbq rfl)) (h4:x4.γ E ρ=.int .i64 v.pv:=by exact rfl) (h5:x5.γ E ρ=.int .i64 v.nx:=by exact rfl) (h6:x6.γ E ρ=.int .i64 v.bl:=by exact rfl) (h7:x7.γ E ρ=.int .i64 v.bd:=by exact rfl) (h8:x8.γ E ρ=.bool v.g:=by exact vsb (sbq rfl)) (h9:x9.γ E ρ=.bool v.c:=by exact vsb (sbq rfl)) (h10:x10.γ E ρ=.int .i64 v.bo:=by exact rfl) (h11:x11.γ E ρ=.int .i64 v.ha:=by exact rfl) (h12:x12.γ E ρ=.int .i64 v.fk:=by exact rfl) (h13:x13.γ E ρ=.int .i64 v.fa:=by exact rfl)
  (k0:y0.γ E ρ=.int .u64 (r 0):=by exact rfl) (k1:y1.γ E ρ=.int .u64 (r 1):=by exact rfl) (k2:y2.γ E ρ=.int .u64 (r 2):=by exact rfl) (k3:y3.γ E ρ=.int .u64 (r 3):=by exact rfl) (k4:y4.γ E ρ=.int .u64 (r 4):=by exact rfl) (k5:y5.γ E ρ=.int .u64 (r 5):=by exact rfl) (k6:y6.γ E ρ=.int .u64 (r 6):=by exact rfl) (k7:y7.γ E ρ=.int .u64 (r 7):=by exact rfl) (k8:y8.γ E ρ=.int .u64 (r 8):=by exact rfl) (k9:y9.γ E ρ=.int .u64 (r 9):=by exact rfl) (k10:y10.γ E ρ=.int .u64 (r 10):=by exact rfl) (k11:y11.γ E ρ=.int .u64 (r 11):=by exact rfl) (k12:y12.γ E ρ=.int .u64 (r 12):=by exact rfl) (k13:y13.γ E ρ=.int .u64 (r 13):=by exact rfl) (k14:y14.γ E ρ=.int .u64 (r 14):=by exact rfl) (k15:y15.γ E ρ=.int .u64 (r 15):=by exact rfl) :
  (V.agg [x0,x1,x2,x3,x4,x5,x6,x7,x8,x9,x10,x11,x12,x13,y0,y1,y2,y3,y4,y5,y6,y7,y8,y9,y10,y11,y12,y13,y14,y15]).γ E ρ=thV v r:=thG h0 h1 h2 h3 h4 h5 h6 h7 h8 h9 h10 h11 h12 h13 k0 k1 k2 k3 k4 k5 k6 k7 k8 k9 k10 k11 k12 k13 k14 k15
theorem zal {a b:SE} (h:a.den E=b.den E):(SB.cmp .eql a b).den E=true:=by
 show iEq (a.den E) (b.den E)=true
 rw[yL];exact decide_eq_true h
theorem yM {a b:SE} (h:a.den E≠b.den E):(SB.cmp .eql a b).den E=false:=by
 show iEq (a.den E) (b.den E)=false
 rw[yL];exact decide_eq_false h
theorem j7 {a b:SE} (h:a.den E≠b.den E):(SB.cmp .neq a b).den E=true:=by
 show (!iEq (a.den E) (b.den E))=true
 rw[yL,decide_eq_false h];rfl
theorem yu {a b:SE} (h:a.den E=b.den E):(SB.cmp .neq a b).den E=false:=by
 show (!iEq (a.den E) (b.den E))=false
 rw[yL,decide_eq_true h];rfl
theorem f_lt {a b:SE} (h:a.den E<b.den E):(SB.cmp .lss a b).den E=true:=by
 show iLt (a.den E) (b.den E)=true
 rw[zaU];exact decide_eq_true h
theorem zjq {a b:SE} (h:b.den E<=a.den E):(SB.cmp .lss a b).den E=false:=by
 show iLt (a.den E) (b.den E)=false
 rw[zaU];exact decide_eq_false (by omega)
theorem f_gt {a b:SE} (h:b.den E<a.den E):(SB.cmp .gtr a b).den E=true:=by
 show iLt (b.den E) (a.den E)=true
 rw[zaU];exact decide_eq_true h
theorem f_gtn {a b:SE} (h:a.den E<=b.den E):(SB.cmp .gtr a b).den E=false:=by
 show iLt (b.den E) (a.den E)=false
 rw[zaU];exact decide_eq_false (by omega)
theorem za4 {a b:SE} (h:a.den E<=b.den E):(SB.cmp .leq a b).den E=true:=by
 show iLe (a.den E) (b.den E)=true
 rw[zcX];exact decide_eq_true h
theorem f_len {a b:SE} (h:b.den E<a.den E):(SB.cmp .leq a b).den E=false:=by
 show iLe (a.den E) (b.den E)=false
 rw[zcX];exact decide_eq_false (by omega)
theorem zbh {a b:SE} (h:b.den E<=a.den E):(SB.cmp .geq a b).den E=true:=by
 show iLe (b.den E) (a.den E)=true
 rw[zcX];exact decide_eq_true h
def j8 (E:Env):List (SB × Bool)->Prop
 | []=>True
 | (c,b)::r=>c.den E=b/\j8 E r
def RsOk (E:Env):List (Nat × Int × Int)->Prop
 | []=>True
 | (i,a,b)::r=>(a<=E.i i/\E.i i<=b)/\RsOk E r
theorem zm {l:List (SB × Bool)} {r:List (Nat × Int × Int)} (h:j8 E l) (h2:RsOk E r):FaOk E ⟨l,r⟩:=by
 constructor
 ·intro c b hm
  induction l with
  | nil=>cases hm
  | cons p q ih=>
   obtain⟨c',b'⟩:=p
   rcases List.mem_cons.1 hm with e | hm
   ·cases e;exact h.1
   ·exact ih h.2 hm
 ·intro i a b hm
  induction r with
  | nil=>cases hm
  | cons p q ih=>
   obtain⟨i',a',b'⟩:=p
   rcases List.mem_cons.1 hm with e | hm
   ·cases e;exact h2.1
   ·exact ih h2.2 hm
def PsOk (P:Program) (E:Env):List PEnt->Prop
 | []=>True
 | e::r=>PEntOk P E e/\PsOk P E r
theorem zn:∀ {l:List PEnt},PsOk P E l->∀ e∈l,PEntOk P E e
 | [],_,e,h=>by cases h
 | x::r,h,e,hm=>by
  rcases List.mem_cons.1 hm with rfl | hm
  ·exact h.1
  ·exact zn h.2 e hm
theorem yw {e:SE} {x m:Int} (he:e.den E=x) (h0:0<=x):SE.den E (.op .rem .u64 e (.lit m))=x % m:=by
 show (e.den E).tmod m=_
 rw[he,Int.tmod_eq_emod_of_nonneg h0]
theorem yq {a b:SE} {x y:Int} (ha:a.den E=x) (hb:b.den E=y) (h0:0<=x+y) (h1:x+y<18446744073709551616):SE.den E (.op .add .u64 a b)=x+y:=by
 show jN .u64 (a.den E+b.den E)=_
 rw[ha,hb,z8,IntKind.wrap_u64];omega
theorem yN {e:SE} {x A:Int} (n:Nat) (hA:(2:Int) ^ n=A) (hn:n<=64) (he:e.den E=x) (h0:0<=x) (h1:x*A<18446744073709551616):SE.den E (.op .shl .u64 e (.lit (n:Int)))=x*A:=by
 rw[den_shl n hn he h0 (by rw[hA];exact h1),hA]
theorem yA {e:SE} {x A:Int} (n:Nat) (hA:(2:Int) ^ n=A) (hn:n<=64) (he:e.den E=x) (h0:0<=x):SE.den E (.op .shr .u64 e (.lit (n:Int)))=x / A:=by
 rw[zfa n hn he h0,hA]
def sv (n:Nat):V:=.si .i64 (.v n)
def tv (n:Nat):V:=.sb (.cmp .eql (.v n) (.lit 1))
def tA (b:Nat) (x0 x1 x2 x3 x4 x5 x6 x7 x8 x9 x10 x11 x12 x13:V):V:=.agg [x0,x1,x2,x3,x4,x5,x6,x7,x8,x9,x10,x11,x12,x13,.si .u64 (.v (b+14)),.si .u64 (.v (b+15)),.si .u64 (.v (b+16)),.si .u64 (.v (b+17)),.si .u64 (.v (b+18)),.si .u64 (.v (b+19)),.si .u64 (.v (b+20)),.si .u64 (.v (b+21)),.si .u64 (.v (b+22)),.si .u64 (.v (b+23)),.si .u64 (.v (b+24)),.si .u64 (.v (b+25)),.si .u64 (.v (b+26)),.si .u64 (.v (b+27)),.si .u64 (.v (b+28)),.si .u64 (.v (b+29))]
def tD (b:Nat):V:=tA b (sv b) (sv (b+1)) (sv (b+2)) (tv (b+3)) (sv (b+4)) (sv (b+5)) (sv (b+6)) (sv (b+7)) (tv (b+8)) (tv (b+9)) (sv (b+10)) (sv (b+11)) (sv (b+12)) (sv (b+13))
theorem zi {c:MC} {st:Int} {vs:Nat->Int} {rows:Nat->Nat->Int} {q k:Nat} {e:Ent} {args:List Value} {ret:Value} (hm:zaO P c e.F args (rows q) ret (rows e.q') k) (h1:1<=k) (hk:e.k.den (jA c.N st vs rows)=(k:Nat))
  (ha:∀ ρ,γL (jA c.N st vs rows) ρ e.l=args) (hv:∀ ρ,e.v.γ (jA c.N st vs rows) ρ=ret):zfl P c (jA c.N st vs rows) q e:=ent_x ha hv h1 hk hm
theorem zH {c:MC} {F k:Nat} {args:List Value} {f f':Nat->Int} {v:Value} (h:zaO P c F args f v f' (k+1)):zJ P c F args f v f':=⟨k+1,by omega,h⟩
theorem yD {ρ:Rho} {a:V} {x:Value} (h:a.γ E ρ=x):(V.tup [a,.i .i64 0]).γ E ρ=.tuple #[x,.int .i64 0]:=by
 simp only[V.γ,γL,h]
theorem jQ {ρ:Rho} {x:V} {a:Value} (h1:x.γ E ρ=a):γL E ρ [x]=[a]:=by simp only[γL,h1]
theorem yY {ρ:Rho} {x y:V} {a b:Value} (h1:x.γ E ρ=a) (h2:y.γ E ρ=b):γL E ρ [x,y]=[a,b]:=by simp only[γL,h1,h2]
theorem zbF {ρ:Rho} {x y z:V} {a b d:Value} (h1:x.γ E ρ=a) (h2:y.γ E ρ=b) (h3:z.γ E ρ=d):γL E ρ [x,y,z]=[a,b,d]:=by simp only[γL,h1,h2,h3]
end Go.Ev
end
set_option linter.unusedSimpArgs false
set_option linter.unusedVariables false
set_option maxRecDepth 100000
noncomputable section
namespace Go.Ev
open Go
variable {E E':Env} {P:Program}
def tdS (q g c:Bool) (t:Nat):Sm:=⟨[(.one (.i .i64 (.ofNat t)))],[(t+16,100),(t+17,101),(t+18,102),(t+19,103),(t+32,104),(t+33,105),(t+34,106),(t+35,107),(t+36,108),(t+37,109),(t+38,110),(t+39,111),(t+40,112),(t+41,113),(t+42,114),(t+43,115),(t+44,116),(t+45,117),(t+46,118),(t+47,119)],[((.cmp .geq (.cv .i64 (.op .rem .u64 (.v 101) (.lit 65536))) (.lit 0)),true),((.cmp .leq (.cv .i64 (.op .rem .u64 (.v 101) (.lit 65536))) (.lit 65535)),true),((.cmp .geq (.cv .i64 (.op .rem .u64 (.op .shr .u64 (.v 101) (.lit 16)) (.lit 65536))) (.lit 0)),true),((.cmp .leq (.cv .i64 (.op .rem .u64 (.op .shr .u64 (.v 101) (.lit 16)) (.lit 65536))) (.lit 65535)),true),((.cmp .geq (.cv .i64 (.op .rem .u64 (.op .shr .u64 (.v 101) (.lit 32)) (.lit 65536))) (.lit 0)),true),((.cmp .leq (.cv .i64 (.op .rem .u64 (.op .shr .u64 (.v 101) (.lit 32)) (.lit 65536))) (.lit 65535)),true),((.cmp .geq (.cv .i64 (.op .shr .u64 (.v 101) (.lit 48))) (.lit 0)),true),((.cmp .leq (.cv .i64 (.op .shr .u64 (.v 101) (.lit 48))) (.lit 65535)),true),((.cmp .geq (.cv .i64 (.op .rem .u64 (.v 100) (.lit 8))) (.lit 0)),true),((.cmp .leq (.cv .i64 (.op .rem .u64 (.v 100) (.lit 8))) (.lit 5)),true),((.cmp .geq (.cv .i64 (.op .rem .u64 (.op .shr .u64 (.v 100) (.lit 3)) (.lit 256))) (.lit 0)),true),((.cmp .leq (.cv .i64 (.op .rem .u64 (.op .shr .u64 (.v 100) (.lit 3)) (.lit 256))) (.lit 255)),true),((.cmp .geq (.cv .i64 (.op .rem .u64 (.op .shr .u64 (.v 100) (.lit 11)) (.lit 8))) (.lit 0)),true),((.cmp .leq (.cv .i64 (.op .rem .u64 (.op .shr .u64 (.v 100) (.lit 11)) (.lit 8))) (.lit 5)),true),((.cmp .geq (.cv .i64 (.op .rem .u64 (.op .shr .u64 (.v 100) (.lit 17)) (.lit 4))) (.lit 0)),true),((.cmp .leq (.cv .i64 (.op .rem .u64 (.op .shr .u64 (.v 100) (.lit 17)) (.lit 4))) (.lit 3)),true),((.cmp .geq (.cv .i64 (.op .rem .u64 (.v 102) (.lit 268435456))) (.lit 0)),true),((.cmp .leq (.cv .i64 (.op .rem .u64 (.v 102) (.lit 268435456))) (.lit 268435455)),true),((.cmp .geq (.cv .i64 (.op .rem .u64 (.v 103) (.lit 4294967296))) (.lit 0)),true),((.cmp .leq (.cv .i64 (.op .rem .u64 (.v 103) (.lit 4294967296))) (.lit 4294967295)),true),((.cmp .geq (.cv .i64 (.op .shr .u64 (.v 103) (.lit 32))) (.lit 0)),true),((.cmp .leq (.cv .i64 (.op .shr .u64 (.v 103) (.lit 32))) (.lit 4294967295)),true),((.cmp .eql (.op .rem .u64 (.op .shr .u64 (.v 100) (.lit 14)) (.lit 2)) (.lit 1)),q),((.cmp .eql (.op .rem .u64 (.op .shr .u64 (.v 100) (.lit 15)) (.lit 2)) (.lit 1)),g),((.cmp .eql (.op .rem .u64 (.op .shr .u64 (.v 100) (.lit 16)) (.lit 2)) (.lit 1)),c),((.cmp .eql (.op .add .u64 (.op .add .u64 (.op .add .u64 (.op .add .u64 (.op .add .u64 (.op .add .u64 (.cv .u64 (.cv .i64 (.op .rem .u64 (.v 100) (.lit 8)))) (.op .shl .u64 (.cv .u64 (.cv .i64 (.op .rem .u64 (.op .shr .u64 (.v 100) (.lit 3)) (.lit 256)))) (.lit 3))) (.op .shl .u64 (.cv .u64 (.cv .i64 (.op .rem .u64 (.op .shr .u64 (.v 100) (.lit 11)) (.lit 8)))) (.lit 11))) (.lit (b2 q*16384))) (.lit (b2 g*32768))) (.lit (b2 c*65536))) (.op .shl .u64 (.cv .u64 (.cv .i64 (.op .rem .u64 (.op .shr .u64 (.v 100) (.lit 17)) (.lit 4)))) (.lit 17))) (.v 100)),true),((.cmp .eql (.op .add .u64 (.op .add .u64 (.op .add .u64 (.cv .u64 (.cv .i64 (.op .rem .u64 (.v 101) (.lit 65536)))) (.op .shl .u64 (.cv .u64 (.cv .i64 (.op .rem .u64 (.op .shr .u64 (.v 101) (.lit 16)) (.lit 65536)))) (.lit 16))) (.op .shl .u64 (.cv .u64 (.cv .i64 (.op .rem .u64 (.op .shr .u64 (.v 101) (.lit 32)) (.lit 65536)))) (.lit 32))) (.op .shl .u64 (.cv .u64 (.cv .i64 (.op .shr .u64 (.v 101) (.lit 48)))) (.lit 48))) (.v 101)),true),((.cmp .eql (.cv .u64 (.cv .i64 (.op .rem .u64 (.v 102) (.lit 268435456)))) (.v 102)),true),((.cmp .eql (.op .add .u64 (.cv .u64 (.cv .i64 (.op .rem .u64 (.v 103) (.lit 4294967296)))) (.op .shl .u64 (.cv .u64 (.cv .i64 (.op .shr .u64 (.v 103) (.lit 32)))) (.lit 32))) (.v 103)),true)],(.tup [(.agg [(.s .i64 (.cv .i64 (.op .rem .u64 (.v 100) (.lit 8)))),(.s .i64 (.cv .i64 (.op .rem .u64 (.op .shr .u64 (.v 100) (.lit 3)) (.lit 256)))),(.s .i64 (.cv .i64 (.op .rem .u64 (.op .shr .u64 (.v 100) (.lit 11)) (.lit 8)))),(.b q),(.s .i64 (.cv .i64 (.op .rem .u64 (.v 101) (.lit 65536)))),(.s .i64 (.cv .i64 (.op .rem .u64 (.op .shr .u64 (.v 101) (.lit 16)) (.lit 65536)))),(.s .i64 (.cv .i64 (.op .rem .u64 (.op .shr .u64 (.v 101) (.lit 32)) (.lit 65536)))),(.s .i64 (.cv .i64 (.op .rem .u64 (.v 102) (.lit 268435456)))),(.b g),(.b c),(.s .i64 (.cv .i64 (.op .shr .u64 (.v 101) (.lit 48)))),(.s .i64 (.cv .i64 (.op .rem .u64 (.v 103) (.lit 4294967296)))),(.s .i64 (.cv .i64 (.op .rem .u64 (.op .shr .u64 (.v 100) (.lit 17)) (.lit 4)))),(.s .i64 (.cv .i64 (.op .shr .u64 (.v 103) (.lit 32)))),(.s .u64 (.v 104)),(.s .u64 (.v 105)),(.s .u64 (.v 106)),(.s .u64 (.v 107)),(.s .u64 (.v 108)),(.s .u64 (.v 109)),(.s .u64 (.v 110)),(.s .u64 (.v 111)),(.s .u64 (.v 112)),(.s .u64 (.v 113)),(.s .u64 (.v 114)),(.s .u64 (.v 115)),(.s .u64 (.v 116)),(.s .u64 (.v 117)),(.s .u64 (.v 118)),(.s .u64 (.v 119))]),(.one (.i .i64 0))]),[],20⟩
def sdS (q g c:Bool) (t:Nat):Sm:=⟨[(.one (.i .i64 (.ofNat t))),(.agg [(.w .i64 10),(.w .i64 11),(.w .i64 12),(.b q),(.w .i64 13),(.w .i64 14),(.w .i64 15),(.w .i64 16),(.b g),(.b c),(.w .i64 17),(.w .i64 18),(.w .i64 19),(.w .i64 20),(.w .u64 21),(.w .u64 22),(.w .u64 23),(.w .u64 24),(.w .u64 25),(.w .u64 26),(.w .u64 27),(.w .u64 28),(.w .u64 29),(.w .u64 30),(.w .u64 31),(.w .u64 32),(.w .u64 33),(.w .u64 34),(.w .u64 35),(.w .u64 36)])],[],[((.cmp .geq (.v 13) (.lit 0)),true),((.cmp .leq (.v 13) (.lit 65535)),true),((.cmp .geq (.v 14) (.lit 0)),true),((.cmp .leq (.v 14) (.lit 65535)),true),((.cmp .geq (.v 15) (.lit 0)),true),((.cmp .leq (.v 15) (.lit 65535)),true),((.cmp .geq (.v 17) (.lit 0)),true),((.cmp .leq (.v 17) (.lit 65535)),true),((.cmp .geq (.v 10) (.lit 0)),true),((.cmp .leq (.v 10) (.lit 5)),true),((.cmp .geq (.v 11) (.lit 0)),true),((.cmp .leq (.v 11) (.lit 255)),true),((.cmp .geq (.v 12) (.lit 0)),true),((.cmp .leq (.v 12) (.lit 5)),true),((.cmp .geq (.v 19) (.lit 0)),true),((.cmp .leq (.v 19) (.lit 3)),true),((.cmp .geq (.v 16) (.lit 0)),true),((.cmp .leq (.v 16) (.lit 268435455)),true),((.cmp .geq (.v 18) (.lit 0)),true),((.cmp .leq (.v 18) (.lit 4294967295)),true),((.cmp .geq (.v 20) (.lit 0)),true),((.cmp .leq (.v 20) (.lit 4294967295)),true)],(.one (.one (.i .i64 0))),[(t+16,(.s .u64 (.op .add .u64 (.op .add .u64 (.op .add .u64 (.op .add .u64 (.op .add .u64 (.op .add .u64 (.cv .u64 (.v 10)) (.op .shl .u64 (.cv .u64 (.v 11)) (.lit 3))) (.op .shl .u64 (.cv .u64 (.v 12)) (.lit 11))) (.lit (b2 q*16384))) (.lit (b2 g*32768))) (.lit (b2 c*65536))) (.op .shl .u64 (.cv .u64 (.v 19)) (.lit 17))))),(t+17,(.s .u64 (.op .add .u64 (.op .add .u64 (.op .add .u64 (.cv .u64 (.v 13)) (.op .shl .u64 (.cv .u64 (.v 14)) (.lit 16))) (.op .shl .u64 (.cv .u64 (.v 15)) (.lit 32))) (.op .shl .u64 (.cv .u64 (.v 17)) (.lit 48))))),(t+18,(.s .u64 (.cv .u64 (.v 16)))),(t+19,(.s .u64 (.op .add .u64 (.cv .u64 (.v 18)) (.op .shl .u64 (.cv .u64 (.v 20)) (.lit 32))))),(t+32,(.s .u64 (.v 21))),(t+33,(.s .u64 (.v 22))),(t+34,(.s .u64 (.v 23))),(t+35,(.s .u64 (.v 24))),(t+36,(.s .u64 (.v 25))),(t+37,(.s .u64 (.v 26))),(t+38,(.s .u64 (.v 27))),(t+39,(.s .u64 (.v 28))),(t+40,(.s .u64 (.v 29))),(t+41,(.s .u64 (.v 30))),(t+42,(.s .u64 (.v 31))),(t+43,(.s .u64 (.v 32))),(t+44,(.s .u64 (.v 33))),(t+45,(.s .u64 (.v 34))),(t+46,(.s .u64 (.v 35))),(t+47,(.s .u64 (.v 36)))],20⟩
theorem zrv {c:MC} {F:Nat} {zN:z3} (hc:∀ E,zk E P zN) {f:Nat->Int} {t:Nat} (hwf:(tdS (za f t).q (za f t).g (za f t).c t).wf c=true) (hr:(tdS (za f t).q (za f t).g (za f t).c t).run c F zN=0) (h:RightAt f t) :
  zaO P c F [.int .i64 t] f (.tuple #[thV (za f t) (zp f t),.int .i64 0]) f 20:=by
 have hR:=zh h
 obtain⟨ww0,ww1,ww2,ww3⟩:=w_getW h.a h.b h.c h.d
 obtain⟨ha,hb,hd,he,hs,hl⟩:=h
 refine zbq (s:=tdS (za f t).q (za f t).g (za f t).c t) hwf rfl hr fun st=>⟨jx c.N st f t,rfl,hc _,?_,jU _ _,?_,rfl,fun ρ=>rfl,fun ρ=>?_⟩
 ·refine zm ?_ trivial
  have v100:SE.den (jx c.N st f t) (.v 100)=f (t+16):=rfl
  have v101:SE.den (jx c.N st f t) (.v 101)=f (t+17):=rfl
  have v102:SE.den (jx c.N st f t) (.v 102)=f (t+18):=rfl
  have v103:SE.den (jx c.N st f t) (.v 103)=f (t+19):=rfl
  have ha2:f (t+16)<18446744073709551616:=by omega
  have hd2:f (t+18)<18446744073709551616:=by omega
  have est:SE.den (jx c.N st f t) (.cv .i64 (.op .rem .u64 (.v 100) (.lit 8)))=(za f t).st:=by
   have h:=yf (x:=f (t+16) % 8) (yw (x:=f (t+16)) (m:=8) v100 (by omega)) (by omega) (by omega)
   refine h.trans ?_
   show f (t+16) % 8=f (t+16) % 8
   omega
  have epr:SE.den (jx c.N st f t) (.cv .i64 (.op .rem .u64 (.op .shr .u64 (.v 100) (.lit 3)) (.lit 256)))=(za f t).pr:=by
   have h:=yf (x:=f (t+16) / 8 % 256) (yw (x:=f (t+16) / 8) (m:=256) (yA (A:=8) 3 rfl (by omega) (x:=f (t+16)) v100 ha.1) (by omega)) (by omega) (by omega)
   refine h.trans ?_
   show f (t+16) / 8 % 256=f (t+16) / 8 % 256
   omega
  have esl:SE.den (jx c.N st f t) (.cv .i64 (.op .rem .u64 (.op .shr .u64 (.v 100) (.lit 11)) (.lit 8)))=(za f t).sl:=by
   have h:=yf (x:=f (t+16) / 2048 % 8) (yw (x:=f (t+16) / 2048) (m:=8) (yA (A:=2048) 11 rfl (by omega) (x:=f (t+16)) v100 ha.1) (by omega)) (by omega) (by omega)
   refine h.trans ?_
   show f (t+16) / 2048 % 8=f (t+16) / 2048 % 8
   omega
  have epv:SE.den (jx c.N st f t) (.cv .i64 (.op .rem .u64 (.v 101) (.lit 65536)))=(za f t).pv:=by
   have h:=yf (x:=f (t+17) % 65536) (yw (x:=f (t+17)) (m:=65536) v101 (by omega)) (by omega) (by omega)
   refine h.trans ?_
   show f (t+17) % 65536=f (t+17) % 65536
   omega
  have enx:SE.den (jx c.N st f t) (.cv .i64 (.op .rem .u64 (.op .shr .u64 (.v 101) (.lit 16)) (.lit 65536)))=(za f t).nx:=by
   have h:=yf (x:=f (t+17) / 65536 % 65536) (yw (x:=f (t+17) / 65536) (m:=65536) (yA (A:=65536) 16 rfl (by omega) (x:=f (t+17)) v101 hb.1) (by omega)) (by omega) (by omega)
   refine h.trans ?_
   show f (t+17) / 65536 % 65536=f (t+17) / 65536 % 65536
   omega
  have ebl:SE.den (jx c.N st f t) (.cv .i64 (.op .rem .u64 (.op .shr .u64 (.v 101) (.lit 32)) (.lit 65536)))=(za f t).bl:=by
   have h:=yf (x:=f (t+17) / 4294967296 % 65536) (yw (x:=f (t+17) / 4294967296) (m:=65536) (yA (A:=4294967296) 32 rfl (by omega) (x:=f (t+17)) v101 hb.1) (by omega)) (by omega) (by omega)
   refine h.trans ?_
   show f (t+17) / 4294967296 % 65536=f (t+17) / 4294967296 % 65536
   omega
  have ebd:SE.den (jx c.N st f t) (.cv .i64 (.op .rem .u64 (.v 102) (.lit 268435456)))=(za f t).bd:=by
   have h:=yf (x:=f (t+18) % 268435456) (yw (x:=f (t+18)) (m:=268435456) v102 (by omega)) (by omega) (by omega)
   refine h.trans ?_
   show f (t+18) % 268435456=f (t+18) % 268435456
   omega
  have ebo:SE.den (jx c.N st f t) (.cv .i64 (.op .shr .u64 (.v 101) (.lit 48)))=(za f t).bo:=by
   have h:=yf (x:=f (t+17) / 281474976710656) (yA (A:=281474976710656) 48 rfl (by omega) (x:=f (t+17)) v101 hb.1) (by omega) (by omega)
   refine h.trans ?_
   show f (t+17) / 281474976710656=f (t+17) / 281474976710656 % 65536
   omega
  have eha:SE.den (jx c.N st f t) (.cv .i64 (.op .rem .u64 (.v 103) (.lit 4294967296)))=(za f t).ha:=by
   have h:=yf (x:=f (t+19) % 4294967296) (yw (x:=f (t+19)) (m:=4294967296) v103 (by omega)) (by omega) (by omega)
   refine h.trans ?_
   show f (t+19) % 4294967296=f (t+19) % 4294967296
   omega
  have efk:SE.den (jx c.N st f t) (.cv .i64 (.op .rem .u64 (.op .shr .u64 (.v 100) (.lit 17)) (.lit 4)))=(za f t).fk:=by
   have h:=yf (x:=f (t+16) / 131072 % 4) (yw (x:=f (t+16) / 131072) (m:=4) (yA (A:=131072) 17 rfl (by omega) (x:=f (t+16)) v100 ha.1) (by omega)) (by omega) (by omega)
   refine h.trans ?_
   show f (t+16) / 131072 % 4=f (t+16) / 131072 % 4
   omega
  have efa:SE.den (jx c.N st f t) (.cv .i64 (.op .shr .u64 (.v 103) (.lit 32)))=(za f t).fa:=by
   have h:=yf (x:=f (t+19) / 4294967296) (yA (A:=4294967296) 32 rfl (by omega) (x:=f (t+19)) v103 he.1) (by omega) (by omega)
   refine h.trans ?_
   show f (t+19) / 4294967296=f (t+19) / 4294967296 % 4294967296
   omega
  have eq:SB.den (jx c.N st f t) (.cmp .eql (.op .rem .u64 (.op .shr .u64 (.v 100) (.lit 14)) (.lit 2)) (.lit 1))=(za f t).q:=by
   have h:=yw (m:=2) (yA (A:=16384) 14 rfl (by omega) (x:=f (t+16)) v100 ha.1) (by omega)
   exact(congrArg (fun x=>iEq x 1) h).trans (by rw[yL];rfl)
  have eg:SB.den (jx c.N st f t) (.cmp .eql (.op .rem .u64 (.op .shr .u64 (.v 100) (.lit 15)) (.lit 2)) (.lit 1))=(za f t).g:=by
   have h:=yw (m:=2) (yA (A:=32768) 15 rfl (by omega) (x:=f (t+16)) v100 ha.1) (by omega)
   exact(congrArg (fun x=>iEq x 1) h).trans (by rw[yL];rfl)
  have ec:SB.den (jx c.N st f t) (.cmp .eql (.op .rem .u64 (.op .shr .u64 (.v 100) (.lit 16)) (.lit 2)) (.lit 1))=(za f t).c:=by
   have h:=yw (m:=2) (yA (A:=65536) 16 rfl (by omega) (x:=f (t+16)) v100 ha.1) (by omega)
   exact(congrArg (fun x=>iEq x 1) h).trans (by rw[yL];rfl)
  have bq:=zbO (za f t).q
  have bg:=zbO (za f t).g
  have bcc:=zbO (za f t).c
  obtain⟨h1,h2,h3,h4,h5,h6,h7,h8,h9,h10,h11⟩:=hR
  have s0:=(yj est h1.1 (by omega))
  have s1:=yq s0 (yN (A:=8) 3 rfl (by omega) (yj epr h2.1 (by omega)) h2.1 (by omega)) (by omega) (by omega)
  have s2:=yq s1 (yN (A:=2048) 11 rfl (by omega) (yj esl h3.1 (by omega)) h3.1 (by omega)) (by omega) (by omega)
  have s3:=yq s2 (show SE.den (jx c.N st f t) (.lit (b2 (za f t).q*16384))=b2 (za f t).q*16384 from rfl) (by omega) (by omega)
  have s4:=yq s3 (show SE.den (jx c.N st f t) (.lit (b2 (za f t).g*32768))=b2 (za f t).g*32768 from rfl) (by omega) (by omega)
  have s5:=yq s4 (show SE.den (jx c.N st f t) (.lit (b2 (za f t).c*65536))=b2 (za f t).c*65536 from rfl) (by omega) (by omega)
  have s6:=yq s5 (yN (A:=131072) 17 rfl (by omega) (yj efk h10.1 (by omega)) h10.1 (by omega)) (by omega) (by omega)
  have m0:=(yj epv h4.1 (by omega))
  have m1:=yq m0 (yN (A:=65536) 16 rfl (by omega) (yj enx h5.1 (by omega)) h5.1 (by omega)) (by omega) (by omega)
  have m2:=yq m1 (yN (A:=4294967296) 32 rfl (by omega) (yj ebl h6.1 (by omega)) h6.1 (by omega)) (by omega) (by omega)
  have m3:=yq m2 (yN (A:=281474976710656) 48 rfl (by omega) (yj ebo h8.1 (by omega)) h8.1 (by omega)) (by omega) (by omega)
  have n0:=(yj eha h9.1 (by omega))
  have n1:=yq n0 (yN (A:=4294967296) 32 rfl (by omega) (yj efa h11.1 (by omega)) h11.1 (by omega)) (by omega) (by omega)
  exact⟨zbh (by rw[epv];exact h4.1),za4 (by rw[epv];show _<=(65535:Int);omega),zbh (by rw[enx];exact h5.1),za4 (by rw[enx];show _<=(65535:Int);omega),zbh (by rw[ebl];exact h6.1),za4 (by rw[ebl];show _<=(65535:Int);omega),zbh (by rw[ebo];exact h8.1),za4 (by rw[ebo];show _<=(65535:Int);omega),zbh (by rw[est];exact h1.1),za4 (by rw[est];show _<=(5:Int);omega),zbh (by rw[epr];exact h2.1),za4 (by rw[epr];show _<=(255:Int);omega),zbh (by rw[esl];exact h3.1),za4 (by rw[esl];show _<=(5:Int);omega),zbh (by rw[efk];exact h10.1),za4 (by rw[efk];show _<=(3:Int);omega),zbh (by rw[ebd];exact h7.1),za4 (by rw[ebd];show _<=(268435455:Int);omega),zbh (by rw[eha];exact h9.1),za4 (by rw[eha];show _<=(4294967295:Int);omega),zbh (by rw[efa];exact h11.1),za4 (by rw[efa];show _<=(4294967295:Int);omega),eq,eg,ec,zal (s6.trans ww0),zal (m3.trans ww1),zal ((yj ebd h7.1 (by omega)).trans ww2),zal (n1.trans ww3),trivial⟩
 ·simp only[tdS,List.mem_cons,List.not_mem_nil,or_false,forall_eq_or_imp,forall_eq]
  refine⟨rfl,rfl,rfl,rfl,rfl,rfl,rfl,rfl,rfl,rfl,rfl,rfl,rfl,rfl,rfl,rfl,rfl,rfl,rfl,rfl⟩
 ·have v100:SE.den (jx c.N st f t) (.v 100)=f (t+16):=rfl
  have v101:SE.den (jx c.N st f t) (.v 101)=f (t+17):=rfl
  have v102:SE.den (jx c.N st f t) (.v 102)=f (t+18):=rfl
  have v103:SE.den (jx c.N st f t) (.v 103)=f (t+19):=rfl
  have ha2:f (t+16)<18446744073709551616:=by omega
  have hd2:f (t+18)<18446744073709551616:=by omega
  have est:SE.den (jx c.N st f t) (.cv .i64 (.op .rem .u64 (.v 100) (.lit 8)))=(za f t).st:=by
   have h:=yf (x:=f (t+16) % 8) (yw (x:=f (t+16)) (m:=8) v100 (by omega)) (by omega) (by omega)
   refine h.trans ?_
   show f (t+16) % 8=f (t+16) % 8
   omega
  have epr:SE.den (jx c.N st f t) (.cv .i64 (.op .rem .u64 (.op .shr .u64 (.v 100) (.lit 3)) (.lit 256)))=(za f t).pr:=by
   have h:=yf (x:=f (t+16) / 8 % 256) (yw (x:=f (t+16) / 8) (m:=256) (yA (A:=8) 3 rfl (by omega) (x:=f (t+16)) v100 ha.1) (by omega)) (by omega) (by omega)
   refine h.trans ?_
   show f (t+16) / 8 % 256=f (t+16) / 8 % 256
   omega
  have esl:SE.den (jx c.N st f t) (.cv .i64 (.op .rem .u64 (.op .shr .u64 (.v 100) (.lit 11)) (.lit 8)))=(za f t).sl:=by
   have h:=yf (x:=f (t+16) / 2048 % 8) (yw (x:=f (t+16) / 2048) (m:=8) (yA (A:=2048) 11 rfl (by omega) (x:=f (t+16)) v100 ha.1) (by omega)) (by omega) (by omega)
   refine h.trans ?_
   show f (t+16) / 2048 % 8=f (t+16) / 2048 % 8
   omega
  have epv:SE.den (jx c.N st f t) (.cv .i64 (.op .rem .u64 (.v 101) (.lit 65536)))=(za f t).pv:=by
   have h:=yf (x:=f (t+17) % 65536) (yw (x:=f (t+17)) (m:=65536) v101 (by omega)) (by omega) (by omega)
   refine h.trans ?_
   show f (t+17) % 65536=f (t+17) % 65536
   omega
  have enx:SE.den (jx c.N st f t) (.cv .i64 (.op .rem .u64 (.op .shr .u64 (.v 101) (.lit 16)) (.lit 65536)))=(za f t).nx:=by
   have h:=yf (x:=f (t+17) / 65536 % 65536) (yw (x:=f (t+17) / 65536) (m:=65536) (yA (A:=65536) 16 rfl (by omega) (x:=f (t+17)) v101 hb.1) (by omega)) (by omega) (by omega)
   refine h.trans ?_
   show f (t+17) / 65536 % 65536=f (t+17) / 65536 % 65536
   omega
  have ebl:SE.den (jx c.N st f t) (.cv .i64 (.op .rem .u64 (.op .shr .u64 (.v 101) (.lit 32)) (.lit 65536)))=(za f t).bl:=by
   have h:=yf (x:=f (t+17) / 4294967296 % 65536) (yw (x:=f (t+17) / 4294967296) (m:=65536) (yA (A:=4294967296) 32 rfl (by omega) (x:=f (t+17)) v101 hb.1) (by omega)) (by omega) (by omega)
   refine h.trans ?_
   show f (t+17) / 4294967296 % 65536=f (t+17) / 4294967296 % 65536
   omega
  have ebd:SE.den (jx c.N st f t) (.cv .i64 (.op .rem .u64 (.v 102) (.lit 268435456)))=(za f t).bd:=by
   have h:=yf (x:=f (t+18) % 268435456) (yw (x:=f (t+18)) (m:=268435456) v102 (by omega)) (by omega) (by omega)
   refine h.trans ?_
   show f (t+18) % 268435456=f (t+18) % 268435456
   omega
  have ebo:SE.den (jx c.N st f t) (.cv .i64 (.op .shr .u64 (.v 101) (.lit 48)))=(za f t).bo:=by
   have h:=yf (x:=f (t+17) / 281474976710656) (yA (A:=281474976710656) 48 rfl (by omega) (x:=f (t+17)) v101 hb.1) (by omega) (by omega)
   refine h.trans ?_
   show f (t+17) / 281474976710656=f (t+17) / 281474976710656 % 65536
   omega
  have eha:SE.den (jx c.N st f t) (.cv .i64 (.op .rem .u64 (.v 103) (.lit 4294967296)))=(za f t).ha:=by
   have h:=yf (x:=f (t+19) % 4294967296) (yw (x:=f (t+19)) (m:=4294967296) v103 (by omega)) (by omega) (by omega)
   refine h.trans ?_
   show f (t+19) % 4294967296=f (t+19) % 4294967296
   omega
  have efk:SE.den (jx c.N st f t) (.cv .i64 (.op .rem .u64 (.op .shr .u64 (.v 100) (.lit 17)) (.lit 4)))=(za f t).fk:=by
   have h:=yf (x:=f (t+16) / 131072 % 4) (yw (x:=f (t+16) / 131072) (m:=4) (yA (A:=131072) 17 rfl (by omega) (x:=f (t+16)) v100 ha.1) (by omega)) (by omega) (by omega)
   refine h.trans ?_
   show f (t+16) / 131072 % 4=f (t+16) / 131072 % 4
   omega
  have efa:SE.den (jx c.N st f t) (.cv .i64 (.op .shr .u64 (.v 103) (.lit 32)))=(za f t).fa:=by
   have h:=yf (x:=f (t+19) / 4294967296) (yA (A:=4294967296) 32 rfl (by omega) (x:=f (t+19)) v103 he.1) (by omega) (by omega)
   refine h.trans ?_
   show f (t+19) / 4294967296=f (t+19) / 4294967296 % 4294967296
   omega
  exact yD (thG (vsi est) (vsi epr) (vsi esl) rfl (vsi epv) (vsi enx) (vsi ebl) (vsi ebd) rfl rfl (vsi ebo) (vsi eha) (vsi efk) (vsi efa) rfl rfl rfl rfl rfl rfl rfl rfl rfl rfl rfl rfl rfl rfl rfl rfl)
theorem zlJ {c:MC} {F:Nat} {zN:z3} (hc:∀ E,zk E P zN) {t:Nat} {v:TV} (hwf:(sdS v.q v.g v.c t).wf c=true) (hr:(sdS v.q v.g v.c t).run c F zN=0) {f:Nat->Int} (h:v.Right) :
  zaO P c F [.int .i64 t,thV v (zp f t)] f (.int .i64 0) (zg f t v) 20:=by
 obtain⟨h1,h2,h3,h4,h5,h6,h7,h8,h9,h10,h11⟩:=h
 refine zbq (s:=sdS v.q v.g v.c t) hwf rfl hr fun st=>⟨zcG c.N st v f t,rfl,hc _,zm ?_ trivial,jU _ _,fun p hp=>(by cases hp),?_,fun ρ=>rfl,fun ρ=>rfl⟩
 ·exact⟨zbh h4.1,za4 (show v.pv<=(65535:Int) by omega),zbh h5.1,za4 (show v.nx<=(65535:Int) by omega),zbh h6.1,za4 (show v.bl<=(65535:Int) by omega),zbh h8.1,za4 (show v.bo<=(65535:Int) by omega),zbh h1.1,za4 (show v.st<=(5:Int) by omega),zbh h2.1,za4 (show v.pr<=(255:Int) by omega),zbh h3.1,za4 (show v.sl<=(5:Int) by omega),zbh h10.1,za4 (show v.fk<=(3:Int) by omega),zbh h7.1,za4 (show v.bd<=(268435455:Int) by omega),zbh h9.1,za4 (show v.ha<=(4294967295:Int) by omega),zbh h11.1,za4 (show v.fa<=(4294967295:Int) by omega),trivial⟩
 ·have bq:=zbO v.q
  have bg:=zbO v.g
  have bcc:=zbO v.c
  have est:SE.den (zcG c.N st v f t) (.v 10)=v.st:=rfl
  have epr:SE.den (zcG c.N st v f t) (.v 11)=v.pr:=rfl
  have esl:SE.den (zcG c.N st v f t) (.v 12)=v.sl:=rfl
  have epv:SE.den (zcG c.N st v f t) (.v 13)=v.pv:=rfl
  have enx:SE.den (zcG c.N st v f t) (.v 14)=v.nx:=rfl
  have ebl:SE.den (zcG c.N st v f t) (.v 15)=v.bl:=rfl
  have ebd:SE.den (zcG c.N st v f t) (.v 16)=v.bd:=rfl
  have ebo:SE.den (zcG c.N st v f t) (.v 17)=v.bo:=rfl
  have eha:SE.den (zcG c.N st v f t) (.v 18)=v.ha:=rfl
  have efk:SE.den (zcG c.N st v f t) (.v 19)=v.fk:=rfl
  have efa:SE.den (zcG c.N st v f t) (.v 20)=v.fa:=rfl
  have s0:=(yj est h1.1 (by omega))
  have s1:=yq s0 (yN (A:=8) 3 rfl (by omega) (yj epr h2.1 (by omega)) h2.1 (by omega)) (by omega) (by omega)
  have s2:=yq s1 (yN (A:=2048) 11 rfl (by omega) (yj esl h3.1 (by omega)) h3.1 (by omega)) (by omega) (by omega)
  have s3:=yq s2 (show SE.den (zcG c.N st v f t) (.lit (b2 v.q*16384))=b2 v.q*16384 from rfl) (by omega) (by omega)
  have s4:=yq s3 (show SE.den (zcG c.N st v f t) (.lit (b2 v.g*32768))=b2 v.g*32768 from rfl) (by omega) (by omega)
  have s5:=yq s4 (show SE.den (zcG c.N st v f t) (.lit (b2 v.c*65536))=b2 v.c*65536 from rfl) (by omega) (by omega)
  have s6:=yq s5 (yN (A:=131072) 17 rfl (by omega) (yj efk h10.1 (by omega)) h10.1 (by omega)) (by omega) (by omega)
  have m0:=(yj epv h4.1 (by omega))
  have m1:=yq m0 (yN (A:=65536) 16 rfl (by omega) (yj enx h5.1 (by omega)) h5.1 (by omega)) (by omega) (by omega)
  have m2:=yq m1 (yN (A:=4294967296) 32 rfl (by omega) (yj ebl h6.1 (by omega)) h6.1 (by omega)) (by omega) (by omega)
  have m3:=yq m2 (yN (A:=281474976710656) 48 rfl (by omega) (yj ebo h8.1 (by omega)) h8.1 (by omega)) (by omega) (by omega)
  have n0:=(yj eha h9.1 (by omega))
  have n1:=yq n0 (yN (A:=4294967296) 32 rfl (by omega) (yj efa h11.1 (by omega)) h11.1 (by omega)) (by omega) (by omega)
  have k0:=(yj ebd h7.1 (by omega))
  exact wr_fin s6 m3 k0 n1 (zp f t) (fun j=>rfl)
end Go.Ev
end
set_option linter.unusedSimpArgs false
set_option linter.unusedVariables false
noncomputable section
namespace Go.Ev
open Go
variable {T:Nat->Prop} {f:Nat->Int} {Q:Nat->List Nat} {t:Nat}
def zgQ (v:TV):TV:={ v with st:=1,bl:=0,bd:=0,g:=false,c:=false }
def yg (f:Nat->Int) (t:Nat):Nat->Int:=zg f t (zgQ (za f t))
def zc6 (f:Nat->Int) (t:Nat):Nat->Int:=if f 1=(t:Int)\/(za f t).q=true then yg f t else zbb (yg f t) t
def zc8 (f:Nat->Int) (t:Nat):Nat->Int:=if (za f t).q=true then zZ f t else f
def zbY (f:Nat->Int) (t:Nat):Nat->Int:=if f 1=(t:Int) then upd (zc8 f t) 1 0 else zc8 f t
def zd9 (f:Nat->Int) (t:Nat) (s:Int):Nat->Int:=zg (zbY f t) t { za (zbY f t) t with st:=s }
def zau (f:Nat->Int) (h:Nat):Nat->Int:=
 if f 1=0 then upd (zZ f h) 1 h
 else if (za f h).pr<=(za f (f 1).toNat).pr then f else upd (z6 (zZ f h) (f 1).toNat) 1 h
def zd4 (v:TV):TV:={ v with q:=false,pv:=0,nx:=0 }
theorem chg (hT:Thr T) (h:QInv T f Q) (ht:T t) {v:TV} (hv:v.Right) (hq:v.q=(za f t).q) (hpv:v.pv=(za f t).pv) (hnx:v.nx=(za f t).nx) (hpr:v.pr=(za f t).pr\/(za f t).q=false):QInv T (zg f t v) Q:=by
 have w:=yU hT h.thr ht hv
 have lo:∀ i,i<512->zg f t v i=f i:=fun i hi=>w.lo i (by omega)
 refine⟨w.ri,fun p u hp hm=>?_,fun u hu=>?_,fun u hu=>?_,h.nd,fun p hp=>j4 (fun u hu=>?_) (h.lk p hp),fun p hp=>by rw[lo _ (by omega)];exact h.hd p hp,fun g hg=>by rw[lo _ (by omega)];exact h.bm g hg,?_⟩
 ·obtain⟨m1,m2,m3⟩:=h.el p u hp hm
  by_cases e:u=t
  ·subst e
   rw[w.me]
   refine⟨m1,?_,by rw[hq];exact m3⟩
   rcases hpr with hpr | hpr
   ·rw[hpr];exact m2
   ·rw[hpr]at m3;cases m3
  ·rw[w.ot u m1 e];exact⟨m1,m2,m3⟩
 ·by_cases e:u=t
  ·subst e
   rw[w.me,hq]
   intro h2
   rcases hpr with hpr | hpr
   ·rw[hpr];exact h.off u hu h2
   ·rw[hpr]at h2;cases h2
  ·rw[w.ot u hu e];exact h.off u hu
 ·by_cases e:u=t
  ·subst e
   rw[w.me,hq,hpv,hnx];exact h.free u hu
  ·rw[w.ot u hu e];exact h.free u hu
 ·have m1:=(h.el p u hp hu).1
  by_cases e:u=t
  ·subst e;rw[w.me];exact⟨hpv,hnx⟩
  ·rw[w.ot u m1 e];exact⟨rfl,rfl⟩
 ·rw[lo 4 (by omega)]
  exact⟨h.sm.1,h.sm.2.1,fun g hg=>by rw[lo _ (by omega)];exact h.sm.2.2 g hg⟩
theorem zek (hT:Thr T) (h:QInv T f Q) (x:Int):QInv T (upd f 1 x) Q:=by
 have g:∀ u,T u->za (upd f 1 x) u=za f u:=fun u hu=>zbB f x (by have:=hT.lo u hu;omega)
 refine⟨fun u hu=>za2 x (by have:=hT.lo u hu;omega) (h.thr u hu),fun p u hp hm=>?_,fun u hu=>?_,fun u hu=>?_,h.nd,fun p hp=>j4 (fun u hu=>?_) (h.lk p hp),fun p hp=>by rw[zY _ _ (by omega)];exact h.hd p hp,fun k hk=>by rw[zY _ _ (by omega)];exact h.bm k hk,?_⟩
 ·obtain⟨m1,m2,m3⟩:=h.el p u hp hm
  rw[g u m1];exact⟨m1,m2,m3⟩
 ·rw[g u hu];exact h.off u hu
 ·rw[g u hu];exact h.free u hu
 ·rw[g u (h.el p u hp hu).1];exact⟨rfl,rfl⟩
 ·rw[zY _ _ (by omega)]
  exact⟨h.sm.1,h.sm.2.1,fun k hk=>by rw[zY _ _ (by omega)];exact h.sm.2.2 k hk⟩
structure SS (T:Nat->Prop) (f:Nat->Int) (Q:Nat->List Nat) (P:Nat->TV) (c:Nat):Prop where
 q:QInv T f Q
 th:∀ t,T t->zd4 (za f t)=P t
 cur:f 1=(c:Int)
 ct:c=0\/T c
 run:∀ t,T t->((P t).st=1 ↔ (t=c\/(za f t).q=true))
 nc:T c->(za f c).q=false
def zbw (P:Nat->TV) (t:Nat) (v:TV):Nat->TV:=fun i=>if i=t then v else P i
theorem jK (P:Nat->TV) (t:Nat) (v:TV):zbw P t v t=v:=if_pos rfl
theorem yH (P:Nat->TV) {t u:Nat} (v:TV) (h:u≠t):zbw P t v u=P u:=if_neg h
variable {P:Nat->TV} {c:Nat}
theorem SS.pr (s:SS T f Q P c) (ht:T t):(za f t).pr=(P t).pr:=by rw[<- s.th t ht];rfl
theorem SS.st (s:SS T f Q P c) (ht:T t):(za f t).st=(P t).st:=by rw[<- s.th t ht];rfl
theorem SS.sl (s:SS T f Q P c) (ht:T t):(za f t).sl=(P t).sl:=by rw[<- s.th t ht];rfl
theorem SS.inQ (s:SS T f Q P c) (ht:T t):(za f t).q=true ↔ t∈Q (P t).pr.toNat:=by
 rw[<- s.pr ht]
 exact⟨s.q.off t ht,fun h=>(s.q.el _ t (yK s.q ht).1 h).2.2⟩
theorem SS.prN (s:SS T f Q P c) (ht:T t):(P t).pr.toNat<256/\(((P t).pr.toNat:Nat):Int)=(P t).pr:=by
 rw[<- s.pr ht];exact yK s.q ht
theorem zaC {v:TV} (h:v.Right):(zgQ v).Right:=⟨by show (0:Int)<=1/\(1:Int)<=5;omega,h.pr,h.sl,h.pv,h.nx,by show (0:Int)<=0/\(0:Int)<65536;omega,by show (0:Int)<=0/\(0:Int)<268435456;omega,h.bo,h.ha,h.fk,h.fa⟩
theorem zdO (hT:Thr T) (s:QInv T f Q) (ht:T t):QInv T (yg f t) Q:=chg hT s ht (zaC (zh (s.thr t ht))) rfl rfl rfl (.inl rfl)
theorem zcK (hT:Thr T) (s:QInv T f Q) (ht:T t):Two T f (yg f t) t (zgQ (za f t)) (fun _ x=>x):=yU hT s.thr ht (zaC (zh (s.thr t ht)))
theorem wake_S (hT:Thr T) (s:SS T f Q P c) (ht:T t) :
  SS T (zc6 f t) (if t=c\/t∈Q (P t).pr.toNat then Q else za3 Q (P t).pr.toNat (Q (P t).pr.toNat ++ [t])) (zbw P t (zgQ (P t))) c:=by
 have hA:=zdO hT s.q ht
 have w:=zcK hT s.q ht
 have hth:∀ u,T u->zd4 (za (yg f t) u)=zbw P t (zgQ (P t)) u:=fun u hu=>by
  by_cases e:u=t
  ·subst e;rw[w.me,jK,<- s.th u hu];rfl
  ·rw[w.ot u hu e,yH _ _ e];exact s.th u hu
 have hst:∀ u,T u->((zbw P t (zgQ (P t)) u).st=1 ↔ (u=t\/(P u).st=1)):=fun u hu=>by
  by_cases e:u=t
  ·subst e;rw[jK];exact⟨fun _=>.inl rfl,fun _=>rfl⟩
  ·rw[yH _ _ e];exact⟨fun h=>.inr h,fun h=>h.resolve_left e⟩
 have hcur:f 1=(t:Int) ↔ t=c:=by rw[s.cur];omega
 have hl1:yg f t 1=(c:Int):=by rw[w.lo 1 (by omega)];exact s.cur
 unfold zc6
 have hiff:(f 1=(t:Int)\/(za f t).q=true) ↔ (t=c\/t∈Q (P t).pr.toNat):=by rw[hcur,s.inQ ht]
 by_cases hc:t=c\/t∈Q (P t).pr.toNat
 ·rw[if_pos (hiff.2 hc),if_pos hc]
  refine⟨hA,hth,hl1,s.ct,fun u hu=>?_,fun hcT=>?_⟩
  ·rw[hst u hu]
   have hq2:(za (yg f t) u).q=(za f u).q:=by
    by_cases e:u=t
    ·subst e;rw[w.me];rfl
    ·rw[w.ot u hu e]
   rw[hq2,s.run u hu]
   constructor
   ·rintro (rfl | h)
    ·rcases hc with hc | hc
     ·exact .inl hc
     ·exact .inr ((s.inQ ht).2 hc)
    ·exact h
   ·exact fun h=>.inr h
  ·by_cases e:c=t
   ·rw[e,w.me];rw[<- e];exact s.nc hcT
   ·rw[w.ot c hcT e];exact s.nc hcT
 ·rw[if_neg (fun h=>hc (hiff.1 h)),if_neg hc]
  have hq0:(za (yg f t) t).q=false:=by
   rw[w.me]
   show (za f t).q=false
   cases hq:(za f t).q with
   | false=>rfl
   | true=>exact absurd (.inr ((s.inQ ht).1 hq)) hc
  obtain⟨g1,g2,g3⟩:=push_g hT hA ht hq0
  have hpr:(za (yg f t) t).pr=(P t).pr:=by rw[w.me];exact s.pr ht
  rw[hpr]at g1
  have hg:∀ u,T u->zd4 (za (zbb (yg f t) t) u)=zd4 (za (yg f t) u)/\(za (zbb (yg f t) t) u).q=(decide (u=t) || (za f u).q):=fun u hu=>by
   obtain⟨pv,nx,e⟩:=g2 u hu
   rw[e]
   refine⟨rfl,?_⟩
   show (decide (u=t) || (za (yg f t) u).q)=_
   by_cases e:u=t
   ·rw[decide_eq_true e];rfl
   ·rw[w.ot u hu e]
  refine⟨g1,fun u hu=>by rw[(hg u hu).1];exact hth u hu,by rw[g3 1 (by omega) (by omega) (by omega)];exact hl1,s.ct,fun u hu=>?_,fun hcT=>?_⟩
  ·rw[hst u hu,(hg u hu).2,s.run u hu]
   simp only[Bool.or_eq_true,decide_eq_true_eq]
   constructor
   ·rintro (h | h | h)
    ·exact .inr (.inl h)
    ·exact .inl h
    ·exact .inr (.inr h)
   ·rintro (h | h | h)
    ·exact .inr (.inl h)
    ·exact .inl h
    ·exact .inr (.inr h)
  ·rw[(hg c hcT).2,decide_eq_false (fun e=>hc (.inl e.symm)),s.nc hcT];rfl
theorem zah {v:TV} (h:v.Right) {x:Int} (hx:0<=x/\x<=5):TV.Right { v with st:=x }:=⟨hx,h.pr,h.sl,h.pv,h.nx,h.bl,h.bd,h.bo,h.ha,h.fk,h.fa⟩
theorem zfc (s:SS T f Q P c):(f 1).toNat=c:=by rw[s.cur];rfl
theorem zdD (hT:Thr T) (s:SS T f Q P c) (ht:T t) (hq:(za f t).q=true) :
  (∃ a b,Q (P t).pr.toNat=a ++ t::b/\QInv T (zZ f t) (za3 Q (P t).pr.toNat (a ++ b)))/\(∀ u,T u->zd4 (za (zZ f t) u)=P u/\(za (zZ f t) u).q=(!decide (u=t) && (za f u).q))/\zZ f t 1=(c:Int):=by
 obtain⟨g1,g2,g3⟩:=drop_g hT s.q ht hq
 rw[s.pr ht]at g1
 refine⟨g1,fun u hu=>?_,by rw[g3 1 (by omega) (by omega) (by omega)];exact s.cur⟩
 obtain⟨pv,nx,e⟩:=g2 u hu
 rw[e]
 exact⟨by rw[<- s.th u hu];rfl,rfl⟩
theorem zrX (hT:Thr T) (s:SS T f Q P c) {p:Nat} (hp:p<256) {h:Nat} {r:List Nat} (hQ:Q p=h::r) :
  (c=0->SS T (zau f h) (za3 Q p r) P h)/\(c≠0->(P h).pr<=(P c).pr->zau f h=f) /\
  (c≠0->¬ (P h).pr<=(P c).pr->SS T (zau f h) (za3 (za3 Q p r) (P c).pr.toNat (c::za3 Q p r (P c).pr.toNat)) P h):=by
 have hm:h∈Q p:=by rw[hQ];simp
 obtain⟨hh,hpr,hq⟩:=s.q.el p h hp hm
 have hprP:(P h).pr=(p:Int):=by rw[<- s.pr hh];exact hpr
 have hpN:(P h).pr.toNat=p:=by rw[hprP,Int.toNat_natCast]
 obtain⟨⟨a,b,hab,q1⟩,g2,g3⟩:=zdD hT s hh hq
 rw[hpN]at hab q1
 have hnd:=s.q.nd p hp
 have hab':a=[]/\b=r:=by
  rw[hQ]at hab hnd
  cases a with
  | nil=>
   simp at hab
   exact⟨rfl,hab.symm⟩
  | cons x a'=>
   simp at hab
   obtain⟨e1,e2⟩:=hab
   have:=(List.nodup_cons.1 hnd).1
   rw[e2]at this
   exact absurd (by simp) this
 obtain⟨rfl,rfl⟩:=hab'
 have hch:c≠h:=fun e=>by
  have:=s.nc (e ▸ hh)
  rw[e,hq]at this;cases this
 have hhl:=hT.lo h hh
 have zr:∀ u,T u->((P u).st=1 ↔ (u=c\/(za f u).q=true)):=s.run
 refine⟨fun h0=>?_,fun h0 hle=>?_,fun h0 hgt=>?_⟩
 ·unfold zau
  rw[if_pos (by rw[s.cur,h0];rfl)]
  have q2:=zek hT q1 (h:Int)
  have gu:∀ u,T u->za (upd (zZ f h) 1 h) u=za (zZ f h) u:=fun u hu=>zbB _ _ (by have:=hT.lo u hu;omega)
  refine⟨q2,fun u hu=>by rw[gu u hu];exact(g2 u hu).1,za7 _ _ _,.inr hh,fun u hu=>?_,fun _=>?_⟩
  ·rw[gu u hu,(g2 u hu).2,zr u hu]
   by_cases e:u=h
   ·subst e;simp[hq]
   ·have:u≠c:=fun e2=>by have:=hT.lo u hu;omega
    simp[e,this]
  ·rw[gu h hh,(g2 h hh).2];simp
 ·unfold zau
  rw[if_neg (by rw[s.cur];omega),zfc s,s.pr hh,if_pos (by rw[s.pr (s.ct.resolve_left h0)];exact hle)]
 ·have hcT:=s.ct.resolve_left h0
  unfold zau
  rw[if_neg (by rw[s.cur];omega),zfc s,s.pr hh,if_neg (by rw[s.pr hcT];exact hgt)]
  have hq0:(za (zZ f h) c).q=false:=by rw[(g2 c hcT).2,s.nc hcT];simp
  obtain⟨k1,k2,k3⟩:=zmb hT q1 hcT hq0
  have hprc:(za (zZ f h) c).pr=(P c).pr:=by rw[<- (g2 c hcT).1];rfl
  rw[hprc]at k1
  have q2:=zek hT k1 (h:Int)
  have gu:∀ u,T u->za (upd (z6 (zZ f h) c) 1 h) u=za (z6 (zZ f h) c) u:=fun u hu=>zbB _ _ (by have:=hT.lo u hu;omega)
  have hg:∀ u,T u->zd4 (za (z6 (zZ f h) c) u)=P u/\(za (z6 (zZ f h) c) u).q=(decide (u=c) || (!decide (u=h) && (za f u).q)):=fun u hu=>by
   obtain⟨pv,nx,e⟩:=k2 u hu
   rw[e]
   refine⟨(g2 u hu).1,?_⟩
   show (decide (u=c) || (za (zZ f h) u).q)=_
   rw[(g2 u hu).2]
  refine⟨q2,fun u hu=>by rw[gu u hu];exact(hg u hu).1,za7 _ _ _,.inr hh,fun u hu=>?_,fun _=>?_⟩
  ·rw[gu u hu,(hg u hu).2,zr u hu]
   by_cases e:u=h
   ·subst e;simp[hq]
   ·simp[e]
  ·rw[gu h hh,(hg h hh).2];simp[Ne.symm hch]
theorem zhn (h:QInv T f Q) {Q':Nat->List Nat} (e:∀ p,p<256->Q' p=Q p):QInv T f Q':=
 ⟨h.thr,fun p t hp hm=>h.el p t hp (by rw[<- e p hp];exact hm),fun t ht hq=>by rw[e _ (yK h ht).1];exact h.off t ht hq,h.free,fun p hp=>by rw[e p hp];exact h.nd p hp,
  fun p hp=>by rw[e p hp];exact h.lk p hp,fun p hp=>by rw[e p hp];exact h.hd p hp,fun g hg=>⟨(h.bm g hg).1,(h.bm g hg).2.1,fun k hk=>by rw[e _ (by omega)];exact(h.bm g hg).2.2 k hk⟩,h.sm⟩
def zjv (Q:Nat->List Nat) (t:Nat):Nat->List Nat:=fun p=>(Q p).filter (fun u=>decide (u≠t))
theorem zmU {p:Nat} (h:t∉Q p):zjv Q t p=Q p:=List.filter_eq_self.2 fun u hu=>by simp;exact fun e=>h (e ▸ hu)
theorem zhS (hT:Thr T) (s:SS T f Q P c) (ht:T t) (hq:(za f t).q=true):QInv T (zZ f t) (zjv Q t):=by
 obtain⟨⟨a,b,hab,q1⟩,_,_⟩:=zdD hT s ht hq
 have hp:=(s.prN ht).1
 have hnd:=s.q.nd _ hp
 refine zhn q1 fun p hp2=>?_
 by_cases e:p=(P t).pr.toNat
 ·subst e
  rw[zP]
  unfold zjv
  rw[hab]at hnd ⊢
  obtain⟨na,nb,nab⟩:=List.nodup_append.1 hnd
  have nb':=List.nodup_cons.1 nb
  rw[List.filter_append,List.filter_cons]
  rw[List.filter_eq_self.2 fun u hu=>by simp;exact fun e=>nab t (e ▸ hu) t (by simp) rfl]
  rw[if_neg (by simp),List.filter_eq_self.2 fun u hu=>by simp;exact fun e=>nb'.1 (e ▸ hu)]
 ·rw[zQ _ _ e]
  refine zmU fun hm=>e ?_
  have:=(s.q.el p t hp2 hm).2.1
  rw[s.pr ht]at this
  omega
theorem stop_S (hT:Thr T) (s:SS T f Q P c) (ht:T t) {x:Int} (hx:0<=x/\x<=5) (h1:x≠1) :
  SS T (zd9 f t x) (zjv Q t) (zbw P t { P t with st:=x }) (if t=c then 0 else c):=by
 have htl:=hT.lo t ht
 have hA:QInv T (zc8 f t) (zjv Q t)/\(∀ u,T u->zd4 (za (zc8 f t) u)=P u/\(za (zc8 f t) u).q=(!decide (u=t) && (za f u).q))/\zc8 f t 1=(c:Int):=by
  unfold zc8
  by_cases hq:(za f t).q=true
  ·rw[if_pos hq]
   exact⟨zhS hT s ht hq,(zdD hT s ht hq).2⟩
  ·rw[if_neg hq]
   have hq:(za f t).q=false:=by simpa using hq
   refine⟨zhn s.q fun p hp=>zmU (zb4 s.q hq hp),fun u hu=>⟨s.th u hu,?_⟩,s.cur⟩
   by_cases e:u=t
   ·subst e;simp[hq]
   ·simp[e]
 obtain⟨qA,gA,cA⟩:=hA
 have hB:QInv T (zbY f t) (zjv Q t)/\(∀ u,T u->za (zbY f t) u=za (zc8 f t) u)/\zbY f t 1=((if t=c then 0 else c:Nat):Int):=by
  unfold zbY
  by_cases e:t=c
  ·rw[if_pos (by rw[s.cur,e]),if_pos e]
   exact⟨zek hT qA 0,fun u hu=>zbB _ _ (by have:=hT.lo u hu;omega),za7 _ _ _⟩
  ·rw[if_neg (by rw[s.cur];omega),if_neg e]
   exact⟨qA,fun _ _=>rfl,cA⟩
 obtain⟨qB,gB,cB⟩:=hB
 unfold zd9
 have hv:=zh (qB.thr t ht)
 have w:=yU hT qB.thr ht (v:={ za (zbY f t) t with st:=x }) (zah hv hx)
 have qt:(za (zbY f t) t).q=false:=by rw[gB t ht,(gA t ht).2];simp
 have hq2:∀ u,T u->(za (zg (zbY f t) t { za (zbY f t) t with st:=x }) u).q=(!decide (u=t) && (za f u).q):=fun u hu=>by
  by_cases e:u=t
  ·subst e;rw[w.me];show (za (zbY f u) u).q=_;rw[qt];simp
  ·rw[w.ot u hu e,gB u hu,(gA u hu).2]
 refine⟨chg hT qB ht (zah hv hx) rfl rfl rfl (.inl rfl),fun u hu=>?_,by rw[w.lo 1 (by omega)];exact cB,?_,fun u hu=>?_,fun hcT=>?_⟩
 ·by_cases e:u=t
  ·subst e
   rw[w.me,jK,<- (gA u hu).1,<- gB u hu];rfl
  ·rw[w.ot u hu e,yH _ _ e,gB u hu];exact(gA u hu).1
 ·by_cases e:t=c
  ·rw[if_pos e];exact .inl rfl
  ·rw[if_neg e];exact s.ct
 ·rw[hq2 u hu]
  by_cases e:u=t
  ·subst e
   rw[jK]
   show x=1 ↔ _
   by_cases e2:u=c
   ·rw[if_pos e2];simp[h1];have:=hT.lo u hu;omega
   ·rw[if_neg e2];simp[h1,e2]
  ·rw[yH _ _ e,s.run u hu]
   by_cases e2:t=c
   ·rw[if_pos e2]
    have:u≠c:=fun e3=>e (e3.trans e2.symm)
    have h0:u≠0:=by have:=hT.lo u hu;omega
    simp[e,this,h0]
   ·rw[if_neg e2];simp[e]
 ·rw[hq2 _ hcT]
  by_cases e2:t=c
  ·rw[if_pos e2]at hcT ⊢;have:=hT.lo 0 hcT;omega
  ·rw[if_neg e2]at hcT ⊢
   rw[s.nc hcT];simp
end Go.Ev
end
set_option linter.unusedSimpArgs false
set_option linter.unusedVariables false
noncomputable section
namespace Go.Ev
open Go Go.RowKit
variable {E:Env} {P:Program}
end Go.Ev
end
set_option linter.unusedSimpArgs false
set_option linter.unusedVariables false
noncomputable section
namespace Go.Ev
open Go
variable {E:Env} {P:Program}
def zpG (F:Nat) (id:Ev.P) (o o':O) (inner:z3):z3:=fun G l h fa k=>
 bc (Nat.beq G F) (inner G l h fa (fun v h' fa=>bc (zcj (h'.t.get id) (some o)) (bc (zd2 h' id) (hc h' (fun n lo t=>zbg id t o' (fun t=>k v ⟨n,lo,t⟩ fa))) 1) 1)) (inner G l h fa k)
theorem sat_as {ρ:Rho} {h:H} {w:World} (s:Sat E ρ h w) {id:Ev.P} {o o':O} (hg:h.t.get id=some o) (l:o.mine=true) (hi:o'.Is E ρ (ρ id) w.heap) (hb:o'.bd h.n.toNat):Sat E ρ (h.put id o') w:=by
 have back:∀ p u,(h.put id o').t.get p=some u->(p=id/\u=o')\/(p≠id/\h.t.get p=some u):=by
  intro p u hp
  have hp:(h.t.set id o').get p=some u:=hp
  by_cases e:p=id
  ·subst e
   rw[PT.get_set_same]at hp
   exact .inl ⟨rfl,(Option.some.inj hp).symm⟩
  ·rw[PT.get_set_other _ _ _ _ (fun h=>e h.symm)]at hp
   exact .inr ⟨e,hp⟩
 refine⟨fun p u hp=>?_,fun p q u u' hp hq l1 l2 hh=>?_,fun p u hp=>?_⟩
 ·rcases back p u hp with ⟨rfl,rfl⟩ | ⟨_,hp⟩
  ·exact hi
  ·exact s.obj p u hp
 ·rcases back p u hp with ⟨e1,e1'⟩ | ⟨e1,hp2⟩ <;> rcases back q u' hq with ⟨e2,e2'⟩ | ⟨e2,hq2⟩
  ·rw[e1,e2]
  ·subst e1;exact s.inj _ _ _ _ hg hq2 l l2 hh
  ·subst e2;exact s.inj _ _ _ _ hp2 hg l1 (jl l) hh
  ·exact s.inj _ _ _ _ hp2 hq2 l1 l2 hh
 ·rcases back p u hp with ⟨rfl,rfl⟩ | ⟨_,hp⟩
  ·exact⟨(s.bd _ _ hg).1,hb⟩
  ·exact s.bd p u hp
theorem ext_as {ρ ρ':Rho} {h h':H} {w w':World} (x:Ext ρ h w ρ' h' w') {id:Ev.P} {o o':O} (hg:h'.t.get id=some o) (l:o.live=true) (hm:h'.lo.toNat<=id.toNat):Ext ρ h w ρ' (h'.put id o') w':=by
 have back:∀ p u,(h'.put id o').t.get p=some u->(p=id/\u=o')\/(p≠id/\h'.t.get p=some u):=by
  intro p u hp
  have hp:(h'.t.set id o').get p=some u:=hp
  by_cases e:p=id
  ·subst e
   rw[PT.get_set_same]at hp
   exact .inl ⟨rfl,(Option.some.inj hp).symm⟩
  ·rw[PT.get_set_other _ _ _ _ (fun h=>e h.symm)]at hp
   exact .inr ⟨e,hp⟩
 refine⟨x.len,x.lo,x.agree,fun p u hp hg2 hl=>?_,x.os,x.tape,x.output,x.size,x.keep,fun p hp hq=>?_,fun p u hp hg2 hl=>?_⟩
 ·rcases back p u hg2 with ⟨rfl,rfl⟩ | ⟨_,hg2⟩
  ·exact x.new _ _ hp hg l
  ·exact x.new _ _ hp hg2 hl
 ·have:p≠id:=fun e=>by
   subst e
   rw[x.lo]at hm
   omega
  show (h'.t.set id o').get p=h.t.get p
  rw[PT.get_set_other _ _ _ _ (fun e=>this e.symm)]
  exact x.old p hp hq
 ·rcases back p u hg2 with ⟨rfl,rfl⟩ | ⟨_,hg2⟩
  ·exact x.liv _ _ hp hg l
  ·exact x.liv _ _ hp hg2 hl
theorem zni {F:Nat} {id:Ev.P} {o o':O} {inner:z3} (hi:zk E P inner) (l:o.mine=true) (hc':∀ ρ L hp,o.Is E ρ L hp->o'.Is E ρ L hp) (hb:o'.bd 0):zk E P (zpG F id o o' inner):=by
 intro G l' h fa k hk hfa
 unfold zpG at hk
 cases e:Nat.beq G F with
 | false=>rw[e]at hk;exact hi _ _ _ _ _ hk hfa
 | true=>
  rw[e]at hk
  obtain⟨ca,v,h',fa',hk',hfa',zr⟩:=hi _ _ _ _ _ (show inner G l' h fa _=0 from hk) hfa
  obtain⟨q1,hk'⟩:=zK hk' (by simp)
  obtain⟨q2,hk'⟩:=zK hk' (by simp)
  have q1:=zby q1
  rw[zbA,zaP]at hk'
  refine⟨ca,v,h'.put id o',fa',hk',hfa',fun ρ w hbd hs=>(zr ρ w hbd hs).mono ?_⟩
  rintro ex w' ⟨ρ',he,hs',hx',hv⟩
  exact⟨ρ',he,sat_as hs' q1 l (hc' _ _ _ (hs'.obj _ _ q1)) (O.bd_mono (Nat.zero_le _) _ hb),ext_as hx' q1 (jl l) (zak h' id q2),hv⟩
def zfZ:Tr V->Bool
 | .nil=>true
 | .leaf (.i .u64 _)=>true
 | .leaf _=>false
 | .node a b=>zfZ a && zfZ b
def vNum:V->Int
 | .i _ n=>n
 | _=>0
def trF (t:Tr V) (i:Nat):Int:=vNum (zay t 13 (.i .u64 0) i)
theorem zfn:∀ {t:Tr V} {d i:Nat} {v:V},zfZ t=true->t.get d i=some v->∃ n,v=.i .u64 n
 | .nil,d,i,v,h,hg=>by rw[Tr.get_nil]at hg;cases hg
 | .leaf x,0,i,v,h,hg=>by
  have hg:some x=some v:=hg
  cases hg
  unfold zfZ at h
  cases x with
  | i k n=>cases k <;> first | exact⟨n,rfl⟩ | (cases h;done)
  | _=>cases h
 | .leaf x,d+1,i,v,h,hg=>by rw[Tr.get_succ]at hg;cases hg
 | .node a b,0,i,v,h,hg=>by cases hg
 | .node a b,d+1,i,v,h,hg=>by
  unfold zfZ at h
  simp only[Bool.and_eq_true]at h
  rw[Tr.get_succ]at hg
  have hg:(if i % 2=0 then a.get d (i / 2) else b.get d (i / 2))=some v:=hg
  split at hg
  ·exact zfn h.1 hg
  ·exact zfn h.2 hg
theorem trF_γ {t:Tr V} (h:zfZ t=true) (i:Nat) (ρ:Rho):(zay t 13 (.i .u64 0) i).γ E ρ=.int .u64 (trF t i):=by
 unfold trF zay
 cases e:t.get 13 i with
 | none=>rfl
 | some v=>
  obtain⟨n,rfl⟩:=zfn h e
  rfl
theorem zpH {t:TypeId} {q N:Nat} {tr:Tr V} (h:zfZ tr=true) (hq:yo (E.s q).cs N (trF tr)) (ρ:Rho) (L:Pl) (hp:Array Obj) (hi:(O.arr t N 13 (.i .u64 0) tr).Is E ρ L hp):(O.oa t q N 13 .nil).Is E ρ L hp:=by
 obtain⟨h1,cs,h2,h3,h4⟩:=hi
 refine⟨h1,cs,h2,h3,hq.1,fun i hi=>?_⟩
 rw[h4 i hi,trF_γ h i ρ]
 unfold zdq
 rw[Tr.get_nil]
 exact(hq.2 i hi).symm
theorem zmh (t:TypeId) (q n d:Nat):(O.oa t q n d .nil).bd 0:=fun i v _ hv=>by rw[Tr.get_nil]at hv;cases hv
end Go.Ev
end
set_option linter.unusedSimpArgs false
set_option linter.unusedVariables false
noncomputable section
namespace Go.Ev
open Go Go.RowKit
variable {E:Env} {P:Program}
def sgL:List (Nat × SE)->Sg
 | []=>fun _=>none
 | (a,s)::r=>fun i=>bc (Nat.beq i a) (some s) (sgL r i)
def nxS (σ:Sg) (E:Env) (x:Int) (rows:Nat->Row) (q:Nat):Row:=if q<50 then { E.s q with idx:=x.toNat } else match σ (100000+q) with
 | some (.lit (.ofNat q'))=>E.s q'
 | _=>rows q
def nxA (σ:Sg) (E:Env) (x:Int) (vs:Nat->Int) (rows:Nat->Row):Env:=⟨fun i=>match σ i with
 | some s=>s.den E
 | none=>vs i,E.b,nxS σ E x rows⟩
theorem nxA_tr (σ:Sg) (E:Env) (x:Int) (vs:Nat->Int) (rows:Nat->Row):TrE σ E (nxA σ E x vs rows):=by
 refine⟨fun i s h=>by simp[nxA,h],rfl,fun q hq=>?_,fun q q' hq h=>?_⟩
 ·show zoS (nxS σ E x rows q) _
  unfold nxS
  rw[if_pos hq]
  exact⟨rfl,rfl,rfl,rfl,rfl,rfl,rfl,rfl⟩
 ·show (nxS σ E x rows q).cs=_
  unfold nxS
  rw[if_neg (by omega),h]
end Go.Ev
end
