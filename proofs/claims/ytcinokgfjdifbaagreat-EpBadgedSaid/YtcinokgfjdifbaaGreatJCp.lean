import Derived.Test.YtcinokgfjdifbaaGreatQU
import Derived.Test.YtcinokgfjdifbaaGreatE7
set_option linter.unusedSimpArgs false
set_option linter.unusedVariables false
set_option maxRecDepth 100000
noncomputable section
namespace Go.Ev.X
open Go Go.Ev Go.Proofs
variable {E:Env} {f f':Nat->Int} {t u e:Nat} {L:Nat->List Nat}
def T4 (t:Nat):Prop:=t=1024\/t=1088\/t=1152\/t=1216
instance:SubT T4:=⟨fun t h=>h⟩
instance:SubT (Fre T4 EpA L):=⟨fun t h=>h.1⟩
theorem z5:Thr T4:=zd
theorem ze8:EpOk T4 EpA:=⟨fun e h=>by unfold EpA at h;omega,fun e u h hu=>by unfold EpA at h;unfold T4 at hu;omega⟩
theorem zpJ (ht:T4 t) (hu:T4 u) (h:t≠u):zbf t u:=z5.ap t u ht hu h
theorem thV_out {x:TV} (h:∀ j,j<16->f' (t+32+j)=f (t+32+j)):thV x (zp f' t)=thV x (zp f t):=by
 unfold thV zp
 rw[h 0 (by omega),h 1 (by omega),h 2 (by omega),h 3 (by omega),h 4 (by omega),h 5 (by omega),h 6 (by omega),h 7 (by omega),h 8 (by omega),h 9 (by omega),h 10 (by omega),h 11 (by omega),h 12 (by omega),h 13 (by omega),h 14 (by omega),h 15 (by omega)]
def zcv (f f':Nat->Int):Prop:=∀ t j,T4 t->j<16->f' (t+32+j)=f (t+32+j)
theorem zbo (f:Nat->Int):zcv f f:=fun _ _ _ _=>rfl
theorem znP (h:zcv f f') (hu:T4 u) (v:TV):zcv f (zg f' u v):=fun t j ht hj=>by
 rw[ze _ _ (by unfold T4 at ht hu;omega)];exact h t j ht hj
theorem ra_upd (h:zcv f f') (he:EpA e) (x:Int):zcv f (upd f' e x):=fun t j ht hj=>by
 rw[zY _ _ (by unfold T4 at ht;unfold EpA at he;omega)];exact h t j ht hj
theorem ra_th (h:zcv f f') (ht:T4 t) (x:TV):thV x (zp f' t)=thV x (zp f t):=thV_out fun j hj=>h t j ht hj
def tX (b:Nat) (st q pv nx bl bd g c fk:V):V:=tA b st (sv (b+1)) (sv (b+2)) q pv nx bl bd g c (sv (b+10)) (sv (b+11)) fk (sv (b+13))
theorem tA_ok {ρ:Rho} {b:Nat} {x0 x1 x2 x3 x4 x5 x6 x7 x8 x9 x10 x11 x12 x13:V} {v:TV} {r:Nat->Int} (h0:x0.γ E ρ=.int .i64 v.st) (h1:x1.γ E ρ=.int .i64 v.pr) (h2:x2.γ E ρ=.int .i64 v.sl) (h3:x3.γ E ρ=.bool v.q) (h4:x4.γ E ρ=.int .i64 v.pv) (h5:x5.γ E ρ=.int .i64 v.nx) (h6:x6.γ E ρ=.int .i64 v.bl) (h7:x7.γ E ρ=.int .i64 v.bd) (h8:x8.γ E ρ=.bool v.g) (h9:x9.γ E ρ=.bool v.c) (h10:x10.γ E ρ=.int .i64 v.bo) (h11:x11.γ E ρ=.int .i64 v.ha) (h12:x12.γ E ρ=.int .i64 v.fk) (h13:x13.γ E ρ=.int .i64 v.fa)
  (hr:∀ j,14<=j->j<30->E.i (b+j)=ym v r j):(tA b x0 x1 x2 x3 x4 x5 x6 x7 x8 x9 x10 x11 x12 x13).γ E ρ=thV v r:=
 thG h0 h1 h2 h3 h4 h5 h6 h7 h8 h9 h10 h11 h12 h13 (vsi (hr 14 (by omega) (by omega))) (vsi (hr 15 (by omega) (by omega))) (vsi (hr 16 (by omega) (by omega))) (vsi (hr 17 (by omega) (by omega))) (vsi (hr 18 (by omega) (by omega))) (vsi (hr 19 (by omega) (by omega))) (vsi (hr 20 (by omega) (by omega))) (vsi (hr 21 (by omega) (by omega))) (vsi (hr 22 (by omega) (by omega))) (vsi (hr 23 (by omega) (by omega))) (vsi (hr 24 (by omega) (by omega))) (vsi (hr 25 (by omega) (by omega))) (vsi (hr 26 (by omega) (by omega))) (vsi (hr 27 (by omega) (by omega))) (vsi (hr 28 (by omega) (by omega))) (vsi (hr 29 (by omega) (by omega)))
def TlB (vs:Nat->Int) (b:Nat) (v:TV) (r:Nat->Int):Prop:=5<b/\b+30<9000/\∀ j,j<30->vs (b+j)=ym v r j
variable {vs:Nat->Int} {b:Nat} {v w:TV} {r:Nat->Int}
theorem z4 (h:TlB vs b v r) (hE:AgV E vs) {j:Nat} (hj:j<30):E.i (b+j)=ym v r j:=(hE _ (by have:=h.2.1;omega) (by have:=h.1;omega)).trans (h.2.2 j hj)
theorem zc7 (h:TlB vs b v r) (hE:AgV E vs) {ρ:Rho} {st q pv nx bl bd g c fk:V} (h0:st.γ E ρ=.int .i64 w.st) (h3:q.γ E ρ=.bool w.q) (h4:pv.γ E ρ=.int .i64 w.pv) (h5:nx.γ E ρ=.int .i64 w.nx) (h6:bl.γ E ρ=.int .i64 w.bl) (h7:bd.γ E ρ=.int .i64 w.bd) (h8:g.γ E ρ=.bool w.g) (h9:c.γ E ρ=.bool w.c) (h12:fk.γ E ρ=.int .i64 w.fk)
  (e1:w.pr=v.pr) (e2:w.sl=v.sl) (e3:w.bo=v.bo) (e4:w.ha=v.ha) (e5:w.fa=v.fa):(tX b st q pv nx bl bd g c fk).γ E ρ=thV w r:=
 tA_ok h0 (vsi ((z4 h hE (j:=1) (by omega)).trans e1.symm)) (vsi ((z4 h hE (j:=2) (by omega)).trans e2.symm)) h3 h4 h5 h6 h7 h8 h9 (vsi ((z4 h hE (j:=10) (by omega)).trans e3.symm)) (vsi ((z4 h hE (j:=11) (by omega)).trans e4.symm)) h12 (vsi ((z4 h hE (j:=13) (by omega)).trans e5.symm)) fun j h1 h2=>(z4 h hE h2).trans (by
  obtain⟨i,rfl⟩:∃ i,j=i+14:=⟨j - 14,by omega⟩
  rfl)
theorem tD_ok (h:TlB vs b v r) (hE:AgV E vs) (ρ:Rho):(V.tup [tD b,.i .i64 0]).γ E ρ=.tuple #[thV v r,.int .i64 0]:=
 yD (zc7 (w:=v) (st:=sv b) (q:=tv (b+3)) (pv:=sv (b+4)) (nx:=sv (b+5)) (bl:=sv (b+6)) (bd:=sv (b+7)) (g:=tv (b+8)) (c:=tv (b+9)) (fk:=sv (b+12)) h hE (vsi (z4 h hE (j:=0) (by omega))) (vsb (sbq (z4 h hE (j:=3) (by omega)))) (vsi (z4 h hE (j:=4) (by omega))) (vsi (z4 h hE (j:=5) (by omega))) (vsi (z4 h hE (j:=6) (by omega))) (vsi (z4 h hE (j:=7) (by omega))) (vsb (sbq (z4 h hE (j:=8) (by omega)))) (vsb (sbq (z4 h hE (j:=9) (by omega)))) (vsi (z4 h hE (j:=12) (by omega))) rfl rfl rfl rfl rfl)
def rdT (F:Nat) (a:V) (b:Nat):Sh:=⟨F,[a],.tup [tD b,.i .i64 0]⟩
def zey (F:Nat) (a x:V):Sh:=⟨F,[a,x],.i .i64 0⟩
def zcr (F:Nat) (a:V) (b:Nat):Sh:=⟨F,[a],qV (sv b) (sv (b+1)) (sv (b+2))⟩
def wrQS (F:Nat) (a x y z:V):Sh:=⟨F,[a,.agg [x,y,z]],.i .i64 0⟩
variable {c:MC}
def Chn (c:MC) (vs:Nat->Int) (sh:List Sh) (f f':Nat->Int):Prop:=∃ K,Chain PP c vs sh f f' K
theorem z7 (f:Nat->Int):Chn c vs [] f f:=⟨0,Chain.nil f⟩
theorem zan {s:Sh} {zaf:List Sh} {f g f':Nat->Int} {args:List Value} {ret:Value} (hm:zJ PP c s.F args f ret g) (ha:∀ E,AgV E vs->∀ ρ,γL E ρ s.l=args) (hv:∀ E,AgV E vs->∀ ρ,s.v.γ E ρ=ret) (h:Chn c vs zaf g f'):Chn c vs (s::zaf) f f':=by
 obtain⟨k,h1,hm⟩:=hm
 obtain⟨K,h⟩:=h
 exact⟨_,Chain.cons h1 hm ha hv h⟩
theorem zbu {a b:List Sh} {f g f':Nat->Int} (h:Chn c vs a f g) (h2:Chn c vs b g f'):Chn c vs (a ++ b) f f':=by
 obtain⟨K,h⟩:=h
 obtain⟨K2,h2⟩:=h2
 exact⟨_,zq0 h h2⟩
structure Sd where
 c:MC
 rt:Nat
 wt:Nat
 rq:Nat
 wq:Nat
structure SdOk (s:Sd):Prop where
 le:s.c.N<=8192
 rt:∀ {f t},T4 t->RightAt f t->zJ PP s.c s.rt [.int .i64 t] f (.tuple #[thV (za f t) (zp f t),.int .i64 0]) f
 wt:∀ {f t v},T4 t->v.Right->zJ PP s.c s.wt [.int .i64 t,thV v (zp f t)] f (.int .i64 0) (zg f t v)
 rq:∀ {f e},EpA e->QOk (f e)->zJ PP s.c s.rq [.int .i64 e] f (qT (stQ (f e)) (hdQ (f e)) (tlQ (f e))) f
 wq:∀ {e} {a b d:Int} (f:Nat->Int),EpA e->QFit a b d->zJ PP s.c s.wq [.int .i64 e,aggQ a b d] f (.int .i64 0) (upd f e (qwV a b d))
def sdP:Sd:=⟨cP,13,59,15,82⟩
def sdR:Sd:=⟨cR,62,83,81,127⟩
theorem yJ:SdOk sdP:=⟨by decide,fun ht hr=>zH (jy ht hr),fun ht hv=>zH (zaA ht hv),fun he hq=>que_p he hq,fun f he hq=>sque_p he hq f⟩
theorem yB:SdOk sdR:=⟨by decide,fun ht hr=>zH (jH ht hr),fun ht hv=>zH (zaz ht hv),fun he hq=>que_r he hq,fun f he hq=>sque_r he hq f⟩
variable {s:Sd} {zaf:List Sh}
theorem zaJ (hs:SdOk s) (ht:T4 t) (hr:RightAt f t) {a:V} (ha:∀ E,AgV E vs->∀ ρ,a.γ E ρ=.int .i64 t) (htl:TlB vs b (za f t) (zp f t)) (h:Chn s.c vs zaf f f'):Chn s.c vs (rdT s.rt a b::zaf) f f':=
 zan (hs.rt ht hr) (fun E hE ρ=>jQ (ha E hE ρ)) (fun E hE ρ=>tD_ok htl hE ρ) h
theorem zdF {f0:Nat->Int} (hs:SdOk s) (ht:T4 t) (hv:w.Right) (h0:zcv f0 f) {a x:V} (ha:∀ E,AgV E vs->∀ ρ,a.γ E ρ=.int .i64 t) (hx:∀ E,AgV E vs->∀ ρ,x.γ E ρ=thV w (zp f0 t)) (h:Chn s.c vs zaf (zg f t w) f'):Chn s.c vs (zey s.wt a x::zaf) f f':=
 zan (hs.wt ht hv) (fun E hE ρ=>yY (ha E hE ρ) ((hx E hE ρ).trans (ra_th h0 ht w).symm)) (fun E hE ρ=>rfl) h
theorem zbD (hs:SdOk s) (he:EpA e) (hq:QOk (f e)) {a:V} (ha:∀ E,AgV E vs->∀ ρ,a.γ E ρ=.int .i64 e) (b1:5<b/\b+3<9000) (h1:vs b=stQ (f e)) (h2:vs (b+1)=hdQ (f e)) (h3:vs (b+2)=tlQ (f e)) (h:Chn s.c vs zaf f f'):Chn s.c vs (zcr s.rq a b::zaf) f f':=
 zan (hs.rq he hq) (fun E hE ρ=>jQ (ha E hE ρ)) (fun E hE ρ=>qV_ok ((hE b (by omega) (by omega)).trans h1) ((hE (b+1) (by omega) (by omega)).trans h2) ((hE (b+2) (by omega) (by omega)).trans h3)) h
theorem zjy (hs:SdOk s) (he:EpA e) {x y z:Int} (hq:QFit x y z) {a vx vy vz:V} (ha:∀ E,AgV E vs->∀ ρ,a.γ E ρ=.int .i64 e) (hx:∀ E,AgV E vs->∀ ρ,vx.γ E ρ=.int .i64 x) (hy:∀ E,AgV E vs->∀ ρ,vy.γ E ρ=.int .i64 y) (hz:∀ E,AgV E vs->∀ ρ,vz.γ E ρ=.int .i64 z) (h:Chn s.c vs zaf (upd f e (qwV x y z)) f'):Chn s.c vs (wrQS s.wq a vx vy vz::zaf) f f':=
 zan (hs.wq f he hq) (fun E hE ρ=>yY (ha E hE ρ) (agg3 (hx E hE ρ) (hy E hE ρ) (hz E hE ρ))) (fun E hE ρ=>rfl) h
theorem zbs (hs:SdOk s) {F:Nat} {sh:List Sh} {l:List V} {fs:List (SB × Bool)} {v:V} {args:List Value} {ret:Value} (hr:zea cx0 s.c sh [] F l fs v=0) (hl:zcJ .h l=true) (hne:sh≠[]) (h:Chn s.c vs sh f f') (hfs:∀ E,AgV E vs->j8 E fs) (ha:∀ E,AgV E vs->∀ ρ,γL E ρ l=args) (hv:∀ E,AgV E vs->∀ ρ,v.γ E ρ=ret):zJ PP s.c F args f ret f':=by
 obtain⟨K,h⟩:=h
 refine⟨K,?_,memC_ch hC0 hs.le hr hl h hfs (fun E hE=>trivial) ha hv⟩
 cases h with
 | nil=>exact absurd rfl hne
 | cons h1 _ _ _ _=>omega
theorem zfw {s h t:Nat} (hs:s=1\/s=2) (hh:0<h/\h<65536) (ht:0<t/\t<65536):QFit s h t:=.inr ⟨by omega,by omega,by omega⟩
end Go.Ev.X
end
set_option linter.unusedSimpArgs false
set_option linter.unusedVariables false
set_option maxRecDepth 100000
noncomputable section
namespace Go.Ev.X
open Go Go.Ev Go.Proofs
variable {E:Env} {f:Nat->Int} {t e:Nat} {L:Nat->List Nat} {Q:Nat->List Nat} {P:Nat->TV} {c:Nat} {S:Nat->Int}
def vt:V:=sv 1
def ve:V:=sv 2
def zfp (s:Nat):V:=.i .i64 (.ofNat (s+1))
def shJ (s:Nat) (k:Nat):List Sh:=zcr 15 ve 100::(match k with
 | 0=>[rdT 13 vt 200,zey 59 vt (tX 200 (zfp s) (tv 203) (.i .i64 0) (.i .i64 0) ve (sv 207) (tv 208) (tv 209) (sv 212)),wrQS 82 ve (.i .i64 (.ofNat s)) vt vt]
 | 1=>[rdT 13 vt 200,zey 59 vt (tX 200 (zfp s) (tv 203) (sv 102) (.i .i64 0) ve (sv 207) (tv 208) (tv 209) (sv 212)),rdT 13 (sv 102) 400,zey 59 (sv 102) (tX 400 (sv 400) (tv 403) (sv 404) vt (sv 406) (sv 407) (tv 408) (tv 409) (sv 412)),wrQS 82 ve (.i .i64 (.ofNat s)) (sv 101) vt]
 | _=>[])
def fsJ (s:Nat) (k:Nat):List (SB × Bool):=match k with
 | 0=>[(.cmp .neq (.v 100) (.lit 0),false),(.cmp .eql (.v 102) (.lit 0),true)]
 | 1=>[(.cmp .neq (.v 100) (.lit 0),true),(.cmp .neq (.v 100) (.lit (.ofNat s)),false),(.cmp .eql (.v 102) (.lit 0),false)]
 | _=>[(.cmp .neq (.v 100) (.lit 0),true),(.cmp .neq (.v 100) (.lit (.ofNat s)),true)]
def runJn (s k:Nat):Nat:=zea cx0 cP (shJ s k) [] 20 [ve,vt,zfp s] (fsJ s k) (.tup [])
theorem zl0:zW (fun s=>zW (fun k=>Nat.beq (runJn s k) 0) (rng 3)) (zb1 1 2)=true:=by decide +kernel
def vsJ (e t:Nat) (w:Int) (v:TV) (r:Nat->Int) (v2:TV) (r2:Nat->Int):Nat->Int:=fun i=>match i / 100 with
 | 0=>if i=1 then (t:Int) else (e:Int)
 | 1=>if i=100 then stQ w else if i=101 then hdQ w else tlQ w
 | 2=>ym v r (i % 100)
 | 4=>ym v2 r2 (i % 100)
 | _=>0
theorem tlJ2 {w:Int} {v:TV} {r:Nat->Int} {v2:TV} {r2:Nat->Int}:TlB (vsJ e t w v r v2 r2) 200 v r:=⟨by omega,by omega,fun j hj=>by
 unfold vsJ
 rw[show (200+j) / 100=2 from by omega,show (200+j) % 100=j from by omega]
 rfl⟩
theorem tlJ4 {w:Int} {v:TV} {r:Nat->Int} {v2:TV} {r2:Nat->Int}:TlB (vsJ e t w v r v2 r2) 400 v2 r2:=⟨by omega,by omega,fun j hj=>by
 unfold vsJ
 rw[show (400+j) / 100=4 from by omega,show (400+j) % 100=j from by omega]
 rfl⟩
theorem zei {s:Nat} {ρ:Rho}:(zfp s).γ E ρ=.int .i64 ((s:Int)+1):=congrArg (Value.int .i64) (by omega:((s+1:Nat):Int)=(s:Int)+1)
theorem zbL (h:EInv T4 EpA f Q P c L S) (he:EpA e):QOk (f e):=by
 obtain⟨w1,w2,w3,w4,w5⟩:=jB z5 h he
 by_cases e0:L e=[]
 ·left
  rw[h.qw e he,e0];rfl
 ·right
  rw[if_neg e0]at w1
  have h1:=zag z5 h he _ (zw (n:=0) e0)
  have h2:=zag z5 h he _ (zu (p:=0) e0)
  have:=h.s e he
  exact⟨by omega,by omega,by omega,w4,w5⟩
theorem zaE {vs:Nat->Int} {i:Nat} {x:Int} (hi:i<9000) (h5:i≠5) (h:vs i=x):∀ E,AgV E vs->∀ ρ,(sv i).γ E ρ=.int .i64 x:=fun E hE ρ=>vsi ((hE i hi h5).trans h)
theorem vlit {vs:Nat->Int} {n:Nat}:∀ E,AgV E vs->∀ ρ,(V.i .i64 (.ofNat n)).γ E ρ=.int .i64 (n:Nat):=fun E hE ρ=>rfl
theorem join_p (h:EInv T4 EpA f Q P c L S) (ht:Fre T4 EpA L t) (he:EpA e) {s:Nat} (hs:s=1\/s=2) (hL:L e=[]\/S e=s):zJ PP cP 20 [.int .i64 e,.int .i64 t,.int .i64 ((s:Int)+1)] f (.tuple #[]) (zaa f e t s):=by
 obtain⟨w1,w2,w3,w4,w5⟩:=jB z5 h he
 have hq:=zbL h he
 have hT:=ht.1
 have hrt:=zaq h hT
 have hlo:=z5.lo t hT
 have hhi:=z5.hi t hT
 have hel:=ze8.lo e he
 have zr:=fun k hk=>Nat.eq_of_beq_eq_true (rng_ok (zt zl0 s (jO (by omega) (by omega))) k hk)
 have hr2:tlQ (f e)<65536/\0<=tlQ (f e):=by unfold tlQ;omega
 have hjr:(ze5 (za f t) e s (tlQ (f e))).Right:=zhj (zh hrt) (s:=s) hel.2 (by omega) (by omega)
 have ra1:zcv f (zbk f e t s):=znP (zbo f) hT _
 obtain⟨z,hz⟩:∃ z,laN (L e) 0=z:=⟨_,rfl⟩
 rw[hz]at w3
 have hargs:∀ (vs:Nat->Int),vs 1=(t:Int)->vs 2=(e:Int)->∀ E,AgV E vs->∀ ρ,γL E ρ [ve,vt,zfp s]=[.int .i64 e,.int .i64 t,.int .i64 ((s:Int)+1)]:=fun vs h1 h2 E hE ρ=>zbF (zaE (by omega) (by omega) h2 E hE ρ) (zaE (by omega) (by omega) h1 E hE ρ) zei
 by_cases e0:L e=[]
 ·rw[if_pos e0]at w1
  have z0:z=0:=by rw[<- hz,e0];rfl
  have ht0:tlQ (f e)=0:=by rw[w3,z0];rfl
  have hx:zaa f e t s=upd (zg f t (ze5 (za f t) e s 0)) e (qwV s t t):=by
   unfold zaa zee zbk
   rw[if_pos ht0,if_pos ht0,ht0]
  rw[ht0]at hjr
  rw[hx]
  obtain⟨vs,hvs⟩:∃ vs,vs=vsJ e t (f e) (za f t) (zp f t) (za f t) (zp f t):=⟨_,rfl⟩
  have v1:vs 1=(t:Int):=by rw[hvs];rfl
  have v2:vs 2=(e:Int):=by rw[hvs];rfl
  have tl2:TlB vs 200 (za f t) (zp f t):=by rw[hvs];exact tlJ2
  have at':=zaE (vs:=vs) (i:=1) (by omega) (by omega) v1
  have ae:=zaE (vs:=vs) (i:=2) (by omega) (by omega) v2
  refine zbs yJ (sh:=shJ s 0) (fs:=fsJ s 0) (l:=[ve,vt,zfp s]) (v:=.tup []) (zr 0 (by omega)) rfl (by simp[shJ]) (vs:=vs)
   (zbD yJ he hq ae (by omega) (by rw[hvs];rfl) (by rw[hvs];rfl) (by rw[hvs];rfl) (zaJ yJ hT hrt at' tl2 (zdF yJ hT hjr (zbo f) at' (fun E hE ρ=>?_)
    (zjy yJ he (x:=(s:Nat)) (y:=(t:Nat)) (z:=(t:Nat)) (zfw hs (by omega) (by omega)) ae vlit at' at' (z7 _))))) (fun E hE=>⟨yu ?_,zal ?_,trivial⟩) (hargs vs v1 v2) (fun E hE ρ=>rfl)
  ·exact zc7 (w:=ze5 (za f t) e s 0) tl2 hE zei (vsb (sbq (z4 tl2 hE (j:=3) (by omega)))) rfl rfl (ae E hE ρ) (vsi (z4 tl2 hE (j:=7) (by omega))) (vsb (sbq (z4 tl2 hE (j:=8) (by omega)))) (vsb (sbq (z4 tl2 hE (j:=9) (by omega)))) (vsi (z4 tl2 hE (j:=12) (by omega))) rfl rfl rfl rfl rfl
  ·show E.i 100=0
   rw[hE 100 (by omega) (by omega),hvs];exact w1
  ·show E.i 102=0
   rw[hE 102 (by omega) (by omega),hvs];exact ht0
 ·rw[if_neg e0]at w1
  have hSe:S e=s:=hL.resolve_left e0
  have hzm:z∈L e:=by rw[<- hz];exact zu e0
  obtain⟨hTz,hrz,_⟩:=h.w e z he hzm
  have hzlo:=z5.lo z hTz
  have hzhi:=z5.hi z hTz
  have hne:t≠z:=fun e1=>ht.2 ⟨e,he,e1 ▸ hzm⟩
  have hh:=zag z5 h he _ (zw (n:=0) e0)
  have ap:=zpJ hT hTz hne
  have hrz1:RightAt (zbk f e t s) z:=yh ap hrz
  have hgz:za (zbk f e t s) z=za f z:=jf ap
  have hvz:TV.Right { za (zbk f e t s) z with nx:=((t:Nat):Int) }:=zeO (zh hrz1) (by omega)
  have hx:zaa f e t s=upd (zg (zbk f e t s) z { za (zbk f e t s) z with nx:=(t:Nat) }) e (qwV s (hdN (L e) 0:Nat) t):=by
   unfold zaa zee
   rw[w3,if_neg (by omega),if_neg (by omega),Int.toNat_natCast,w2]
  rw[hx]
  obtain⟨vs,hvs⟩:∃ vs,vs=vsJ e t (f e) (za f t) (zp f t) (za (zbk f e t s) z) (zp (zbk f e t s) z):=⟨_,rfl⟩
  have v1:vs 1=(t:Int):=by rw[hvs];rfl
  have v2:vs 2=(e:Int):=by rw[hvs];rfl
  have v101:vs 101=(hdN (L e) 0:Nat):=by rw[hvs,<- w2];rfl
  have v102:vs 102=(z:Nat):=by rw[hvs,<- w3];rfl
  have tl2:TlB vs 200 (za f t) (zp f t):=by rw[hvs];exact tlJ2
  have tl4:TlB vs 400 (za (zbk f e t s) z) (zp (zbk f e t s) z):=by rw[hvs];exact tlJ4
  have at':=zaE (vs:=vs) (i:=1) (by omega) (by omega) v1
  have ae:=zaE (vs:=vs) (i:=2) (by omega) (by omega) v2
  have a101:=zaE (vs:=vs) (i:=101) (by omega) (by omega) v101
  have a102:=zaE (vs:=vs) (i:=102) (by omega) (by omega) v102
  refine zbs yJ (sh:=shJ s 1) (fs:=fsJ s 1) (l:=[ve,vt,zfp s]) (v:=.tup []) (zr 1 (by omega)) rfl (by simp[shJ]) (vs:=vs)
   (zbD yJ he hq ae (by omega) (by rw[hvs];rfl) (by rw[hvs];rfl) (by rw[hvs];rfl) (zaJ yJ hT hrt at' tl2 (zdF yJ hT hjr (zbo f) at' (fun E hE ρ=>?_)
    (zaJ yJ hTz hrz1 a102 tl4 (zdF yJ hTz hvz (zbo _) a102 (fun E hE ρ=>?_) (zjy yJ he (x:=(s:Nat)) (y:=(hdN (L e) 0:Nat)) (z:=(t:Nat)) (zfw hs hh (by omega)) ae vlit a101 at' (z7 _))))))) (fun E hE=>⟨j7 ?_,yu ?_,yM ?_,trivial⟩) (hargs vs v1 v2) (fun E hE ρ=>rfl)
  ·exact zc7 (w:=ze5 (za f t) e s (tlQ (f e))) tl2 hE zei (vsb (sbq (z4 tl2 hE (j:=3) (by omega)))) ((a102 E hE ρ).trans (by rw[<- w3];rfl)) rfl (ae E hE ρ) (vsi (z4 tl2 hE (j:=7) (by omega))) (vsb (sbq (z4 tl2 hE (j:=8) (by omega)))) (vsb (sbq (z4 tl2 hE (j:=9) (by omega)))) (vsi (z4 tl2 hE (j:=12) (by omega))) rfl rfl rfl rfl rfl
  ·exact zc7 (w:={ za (zbk f e t s) z with nx:=(t:Nat) }) tl4 hE (vsi (z4 tl4 hE (j:=0) (by omega))) (vsb (sbq (z4 tl4 hE (j:=3) (by omega)))) (vsi (z4 tl4 hE (j:=4) (by omega))) (at' E hE ρ) (vsi (z4 tl4 hE (j:=6) (by omega))) (vsi (z4 tl4 hE (j:=7) (by omega))) (vsb (sbq (z4 tl4 hE (j:=8) (by omega)))) (vsb (sbq (z4 tl4 hE (j:=9) (by omega)))) (vsi (z4 tl4 hE (j:=12) (by omega))) rfl rfl rfl rfl rfl
  ·show E.i 100≠0
   rw[hE 100 (by omega) (by omega),hvs]
   show stQ (f e)≠0
   omega
  ·show E.i 100=(s:Nat)
   rw[hE 100 (by omega) (by omega),hvs]
   show stQ (f e)=_
   omega
  ·show E.i 102≠0
   rw[hE 102 (by omega) (by omega),v102]
   omega
theorem joinN_p (h:EInv T4 EpA f Q P c L S) (he:EpA e) {s:Nat} (hs:s=1\/s=2) (hL:L e≠[]) (hS:S e≠s):zJ PP cP 20 [.int .i64 e,.int .i64 t,.int .i64 ((s:Int)+1)] f (.tuple #[]) f:=by
 obtain⟨w1,w2,w3,w4,w5⟩:=jB z5 h he
 rw[if_neg hL]at w1
 have hSe:=h.s e he
 have zr:=fun k hk=>Nat.eq_of_beq_eq_true (rng_ok (zt zl0 s (jO (by omega) (by omega))) k hk)
 refine zbs yJ (sh:=shJ s 2) (fs:=fsJ s 2) (l:=[ve,vt,zfp s]) (v:=.tup []) (zr 2 (by omega)) rfl (by simp[shJ]) (vs:=vsJ e t (f e) (za f t) (zp f t) (za f t) (zp f t))
  (zbD yJ he (zbL h he) (zaE (by omega) (by omega) rfl) (by omega) rfl rfl rfl (z7 _)) (fun E hE=>⟨j7 ?_,j7 ?_,trivial⟩) (fun E hE ρ=>zbF (zaE (by omega) (by omega) rfl E hE ρ) (zaE (by omega) (by omega) rfl E hE ρ) zei) (fun E hE ρ=>rfl)
 ·show E.i 100≠0
  rw[hE 100 (by omega) (by omega)]
  show stQ (f e)≠0
  omega
 ·show E.i 100≠(s:Nat)
  rw[hE 100 (by omega) (by omega)]
  show stQ (f e)≠_
  omega
end Go.Ev.X
end
