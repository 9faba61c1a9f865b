import Derived.Test.YtcinokgfjdifbaaGreatE6
import Derived.Test.YtcinokgfjdifbaaGreatE5
set_option linter.unusedSimpArgs false
set_option linter.unusedVariables false
noncomputable section
namespace Go.Ev
open Go
variable {T T':Nat->Prop} {f f':Nat->Int} {Q Q':Nat->List Nat} {P P':Nat->TV} {c t:Nat}
def zgm (T:Nat->Prop) (i:Nat):Prop:=i≠4/\(i<8\/12<=i)/\(i<256\/512<=i)/\∀ u,T u->i<u+16\/u+20<=i
theorem jY {u:Nat} (hu:T u) (v:TV) {i:Nat} (ho:zgm T i):zg f u v i=f i:=ze f v (ho.2.2.2 u hu)
theorem zcy {p:Nat} (hp:p<256) (a b:Int) {i:Nat} (ho:zgm T i):yI f p a b i=f i:=jm f p a b (by have:=ho.2.2.1;omega) (by have:=ho.2.1;omega) ho.1
theorem zqe (hT:Thr T) (h:QInv T f Q) (ht:T t) {i:Nat} (ho:zgm T i):zbb f t i=f i:=by
 obtain⟨hp,hpe⟩:=yK h ht
 unfold zbb
 rw[zA hT h hp,yd hT h hp]
 split
 ·rw[zcy hp _ _ ho,jY ht _ ho]
 ·rename_i hne
  have he:Q (za f t).pr.toNat≠[]:=fun e=>hne (by rw[e];rfl)
  have hz:=(h.el _ _ hp (zu (p:=0) he)).1
  rw[zcy hp _ _ ho]
  unfold zed
  rw[Int.toNat_natCast,jY hz _ ho,jY ht _ ho]
theorem zoh (hT:Thr T) (h:QInv T f Q) (ht:T t) {i:Nat} (ho:zgm T i):z6 f t i=f i:=by
 obtain⟨hp,hpe⟩:=yK h ht
 unfold z6
 rw[zA hT h hp,yd hT h hp]
 split
 ·rw[zcy hp _ _ ho,jY ht _ ho]
 ·rename_i hne
  have he:Q (za f t).pr.toNat≠[]:=fun e=>hne (by rw[e];rfl)
  have hz:=(h.el _ _ hp (zw (n:=0) he)).1
  rw[zcy hp _ _ ho]
  unfold zec
  rw[Int.toNat_natCast,jY hz _ ho,jY ht _ ho]
theorem links_T (h:QInv T f Q) (ht:T t) (hq:(za f t).q=true):((za f t).pv≠0->T (za f t).pv.toNat)/\((za f t).nx≠0->T (za f t).nx.toNat):=by
 obtain⟨hp,hpe⟩:=yK h ht
 obtain⟨a,b,hab⟩:=List.append_of_mem (h.off t ht hq)
 have hlk:=h.lk _ hp
 rw[hab]at hlk
 have hl:=(j5.1 hlk).2
 obtain⟨l1,l2,_⟩:=hl
 refine⟨fun hne=>?_,fun hne=>?_⟩
 ·rw[l1]at hne ⊢
  have ha:a≠[]:=fun e=>hne (by rw[e];rfl)
  rw[Int.toNat_natCast]
  exact(h.el _ _ hp (by rw[hab];exact List.mem_append_left _ (zu (p:=0) ha))).1
 ·rw[l2]at hne ⊢
  have hb:b≠[]:=fun e=>hne (by rw[e];rfl)
  rw[Int.toNat_natCast]
  exact(h.el _ _ hp (by rw[hab];exact List.mem_append_right _ (List.mem_cons_of_mem _ (zw (n:=0) hb)))).1
theorem zju (h:QInv T f Q) (ht:T t) (hq:(za f t).q=true) {i:Nat} (ho:zgm T i):zZ f t i=f i:=by
 obtain⟨hp,hpe⟩:=yK h ht
 obtain⟨h1,h2⟩:=links_T h ht hq
 unfold zZ
 rw[zcy hp _ _ ho,jY ht _ ho]
 have hA:ziF f t i=f i:=by
  unfold ziF
  split
  ·rfl
  ·rename_i hne
   unfold zed
   rw[jY (h1 hne) _ ho]
 unfold zkS
 split
 ·exact hA
 ·rename_i hne
  unfold zec
  rw[jY (h2 hne) _ ho];exact hA
theorem zpP (hT:Thr T) (s:SS T f Q P c) (ht:T t) {i:Nat} (ho:zgm T i):zc6 f t i=f i:=by
 have hA:=zdO hT s.q ht
 have h1:yg f t i=f i:=jY ht _ ho
 unfold zc6
 split
 ·exact h1
 ·rw[zqe hT hA ht ho];exact h1
theorem zpS (hT:Thr T) (s:SS T f Q P c) (ht:T t) (x:Int) {i:Nat} (ho:zgm T i) (h1:i≠1):zd9 f t x i=f i:=by
 have hA:zc8 f t i=f i:=by
  unfold zc8
  split
  ·rename_i hq
   exact zju s.q ht hq ho
  ·rfl
 have hB:zbY f t i=f i:=by
  unfold zbY
  split
  ·rw[zY _ _ h1];exact hA
  ·exact hA
 unfold zd9
 rw[jY ht _ ho];exact hB
theorem zlI (hT:Thr T) (s:SS T f Q P c) {h:Nat} (hh:T h) (hq:(za f h).q=true) {i:Nat} (ho:zgm T i) (h1:i≠1):zau f h i=f i:=by
 have hd:=zju s.q hh hq ho
 obtain⟨⟨a,b,hab,q1⟩,g2,g3⟩:=zdD hT s hh hq
 unfold zau
 split
 ·rw[zY _ _ h1];exact hd
 ·split
  ·rfl
  ·rename_i h0 _
   have hc0:c≠0:=fun e=>h0 (by rw[s.cur,e];rfl)
   have hcT:=s.ct.resolve_left hc0
   rw[zY _ _ h1,zfc s,zoh hT q1 hcT ho];exact hd
theorem jg {u:Nat} (h:∀ i,u+16<=i->i<u+20->f' i=f i):za f' u=za f u:=by
 unfold za
 rw[h _ (by omega) (by omega),h _ (by omega) (by omega),h _ (by omega) (by omega),h _ (by omega) (by omega)]
theorem zaG {u:Nat} (h:∀ i,u+16<=i->i<u+20->f' i=f i) (hr:RightAt f u):RightAt f' u:=by
 obtain⟨a,b,c,d,e,g⟩:=hr
 refine⟨?_,?_,?_,?_,?_,?_⟩ <;> rw[h _ (by omega) (by omega)] <;> assumption
theorem zg4 (s:SS T f Q P c) (lo:∀ i,i<512->f' i=f i) (th:∀ u,T u->∀ i,u+16<=i->i<u+20->f' i=f i) (hP:∀ u,T u->P' u=P u):SS T f' Q P' c:=by
 have g:∀ u,T u->za f' u=za f u:=fun u hu=>jg (th u hu)
 have hq:=s.q
 refine⟨⟨fun u hu=>zaG (th u hu) (hq.thr u hu),fun p u hp hm=>?_,fun u hu=>?_,fun u hu=>?_,hq.nd,fun p hp=>j4 (fun u hu=>?_) (hq.lk p hp),fun p hp=>by rw[lo _ (by omega)];exact hq.hd p hp,fun k hk=>by rw[lo _ (by omega)];exact hq.bm k hk,?_⟩,fun u hu=>by rw[g u hu,hP u hu];exact s.th u hu,by rw[lo 1 (by omega)];exact s.cur,s.ct,fun u hu=>by rw[g u hu,hP u hu];exact s.run u hu,fun hc=>by rw[g c hc];exact s.nc hc⟩
 ·obtain⟨m1,m2,m3⟩:=hq.el p u hp hm
  rw[g u m1];exact⟨m1,m2,m3⟩
 ·rw[g u hu];exact hq.off u hu
 ·rw[g u hu];exact hq.free u hu
 ·rw[g u (hq.el p u hp hu).1];exact⟨rfl,rfl⟩
 ·rw[lo 4 (by omega)]
  exact⟨hq.sm.1,hq.sm.2.1,fun k hk=>by rw[lo _ (by omega)];exact hq.sm.2.2 k hk⟩
theorem ss_iff (s:SS T f Q P c) (h:∀ u,T' u ↔ T u):SS T' f Q P c:=by
 have:T'=T:=funext fun u=>propext (h u)
 rw[this];exact s
theorem ss_sub (s:SS T f Q P c) (h:∀ u,T' u ↔ T u/\u≠t) (hq:(za f t).q=false) (hc:t≠c):SS T' f Q P c:=by
 have e:=s.q
 have sub:∀ u,T' u->T u:=fun u hu=>((h u).1 hu).1
 refine⟨⟨fun u hu=>e.thr u (sub u hu),fun p u hp hm=>?_,fun u hu=>e.off u (sub u hu),fun u hu=>e.free u (sub u hu),e.nd,e.lk,e.hd,e.bm,e.sm⟩,fun u hu=>s.th u (sub u hu),s.cur,?_,fun u hu=>s.run u (sub u hu),fun hc=>s.nc (sub c hc)⟩
 ·obtain⟨m1,m2,m3⟩:=e.el p u hp hm
  exact⟨(h u).2 ⟨m1,fun e2=>by rw[e2,hq]at m3;cases m3⟩,m2,m3⟩
 ·rcases s.ct with h0 | h0
  ·exact .inl h0
  ·exact .inr ((h c).2 ⟨h0,fun e=>hc e.symm⟩)
theorem ss_add (s:SS T f Q P c) (h:∀ u,T' u ↔ T u\/u=t) (hn:¬ T t) (h0:t≠0) (hr:RightAt f t) (hq:(za f t).q=false) (hpv:(za f t).pv=0) (hnx:(za f t).nx=0) (hst:(za f t).st≠1) (hP:∀ u,T u->P' u=P u) (hPt:P' t=zd4 (za f t)):SS T' f Q P' c:=by
 have e:=s.q
 refine⟨⟨fun u hu=>?_,fun p u hp hm=>?_,fun u hu hq2=>?_,fun u hu hq2=>?_,e.nd,e.lk,e.hd,e.bm,e.sm⟩,fun u hu=>?_,s.cur,?_,fun u hu=>?_,fun hc=>?_⟩
 ·rcases (h u).1 hu with h1 | rfl
  ·exact e.thr u h1
  ·exact hr
 ·obtain⟨m1,m2,m3⟩:=e.el p u hp hm
  exact⟨(h u).2 (.inl m1),m2,m3⟩
 ·rcases (h u).1 hu with h1 | rfl
  ·exact e.off u h1 hq2
  ·rw[hq]at hq2;cases hq2
 ·rcases (h u).1 hu with h1 | rfl
  ·exact e.free u h1 hq2
  ·exact⟨hpv,hnx⟩
 ·rcases (h u).1 hu with h1 | rfl
  ·rw[hP u h1];exact s.th u h1
  ·exact hPt.symm
 ·rcases s.ct with h1 | h1
  ·exact .inl h1
  ·exact .inr ((h c).2 (.inl h1))
 ·rcases (h u).1 hu with h1 | rfl
  ·rw[hP u h1];exact s.run u h1
  ·rw[hPt]
   constructor
   ·intro h2;exact absurd h2 hst
   ·rintro (h2 | h2)
    ·rcases s.ct with h3 | h3
     ·exact absurd (h2.trans h3) h0
     ·exact absurd (h2 ▸ h3) hn
    ·rw[hq]at h2;cases h2
 ·rcases (h c).1 hc with h1 | h1
  ·exact s.nc h1
  ·rw[h1];exact hq
def Wt (Ep:Nat->Prop) (L:Nat->List Nat) (t:Nat):Prop:=∃ e,Ep e/\t∈L e
def Fre (T Ep:Nat->Prop) (L:Nat->List Nat) (t:Nat):Prop:=T t/\¬ Wt Ep L t
structure EpOk (T Ep:Nat->Prop):Prop where
 lo:∀ e,Ep e->512<=e/\e<65536
 ap:∀ e u,Ep e->T u->e<u+16\/u+20<=e
def qwV (s h t:Int):Int:=s+h*4+t*262144
def zc5 (l:List Nat) (s:Int):Int:=match l with
 | []=>0
 | x::r=>qwV s (hdN (x::r) 0:Nat) (laN (x::r) 0:Nat)
structure EInv (T Ep:Nat->Prop) (f:Nat->Int) (Q:Nat->List Nat) (P:Nat->TV) (c:Nat) (L:Nat->List Nat) (S:Nat->Int):Prop where
 ss:SS (Fre T Ep L) f Q P c
 w:∀ e t,Ep e->t∈L e->T t/\RightAt f t/\zd4 (za f t)=P t/\(za f t).q=false/\(P t).bl=(e:Int)/\(P t).st=S e+1
 s:∀ e,Ep e->S e=1\/S e=2
 nd:∀ e,Ep e->(L e).Nodup
 dj:∀ e e' t,Ep e->Ep e'->t∈L e->t∈L e'->e=e'
 lk:∀ e,Ep e->Lk f 0 (L e) 0
 qw:∀ e,Ep e->f e=zc5 (L e) (S e)
 fr:∀ t,Fre T Ep L t->((P t).st=0\/(P t).st=1)/\(P t).bl=0
variable {Ep:Nat->Prop} {L:Nat->List Nat} {S:Nat->Int} {e:Nat}
theorem zdV (hT:Thr T):Thr (Fre T Ep L):=⟨fun t h=>hT.lo t h.1,fun t h=>hT.hi t h.1,fun t u h1 h2=>hT.ap t u h1.1 h2.1⟩
theorem wt_out (hT:Thr T) (h:EInv T Ep f Q P c L S) {u:Nat} (hu:Wt Ep L u) {i:Nat} (h1:u+16<=i) (h2:i<u+20):zgm (Fre T Ep L) i/\i≠1:=by
 obtain⟨e,he,hm⟩:=hu
 have hTu:=(h.w e u he hm).1
 have hlo:=hT.lo u hTu
 refine⟨⟨by omega,by omega,by omega,fun v hv=>?_⟩,by omega⟩
 have hne:u≠v:=fun e2=>hv.2 (e2 ▸ ⟨e,he,hm⟩)
 have:=hT.ap u v hTu hv.1 hne
 unfold zbf at this
 omega
theorem ep_out (hE:EpOk T Ep) {e:Nat} (he:Ep e):zgm (Fre T Ep L) e/\e≠1:=by
 have:=hE.lo e he
 exact⟨⟨by omega,by omega,by omega,fun v hv=>hE.ap e v he hv.1⟩,by omega⟩
theorem zgv (hT:Thr T) (hE:EpOk T Ep) (h:EInv T Ep f Q P c L S) {c':Nat} (s':SS (Fre T Ep L) f' Q' P' c') (out:∀ i,zgm (Fre T Ep L) i->i≠1->f' i=f i) (hP:∀ u,Wt Ep L u->P' u=P u) (fr':∀ t,Fre T Ep L t->((P' t).st=0\/(P' t).st=1)/\(P' t).bl=0):EInv T Ep f' Q' P' c' L S:=by
 have same:∀ u,Wt Ep L u->∀ i,u+16<=i->i<u+20->f' i=f i:=fun u hu i h1 h2=>by
  obtain⟨a,b⟩:=wt_out hT h hu h1 h2
  exact out i a b
 refine⟨s',fun e t he hm=>?_,h.s,h.nd,h.dj,fun e he=>j4 (fun u hu=>?_) (h.lk e he),fun e he=>?_,fr'⟩
 ·obtain⟨a1,a2,a3,a4,a5,a6⟩:=h.w e t he hm
  have sm:=same t ⟨e,he,hm⟩
  rw[jg sm,hP t ⟨e,he,hm⟩]
  exact⟨a1,zaG sm a2,a3,a4,a5,a6⟩
 ·rw[jg (same u ⟨e,he,hu⟩)];exact⟨rfl,rfl⟩
 ·obtain⟨a,b⟩:=ep_out (L:=L) hE he
  rw[out e a b];exact h.qw e he
theorem wake_E (hT:Thr T) (hE:EpOk T Ep) (h:EInv T Ep f Q P c L S) (ht:Fre T Ep L t):∃ Q',EInv T Ep (zc6 f t) Q' (zbw P t (zgQ (P t))) c L S:=by
 refine⟨_,zgv hT hE h (wake_S (zdV hT) h.ss ht) (fun i ho _=>zpP (zdV hT) h.ss ht ho) (fun u hu=>yH _ _ fun e=>ht.2 (e ▸ hu)) fun u hu=>?_⟩
 by_cases e:u=t
 ·rw[e,jK];exact⟨.inr rfl,rfl⟩
 ·rw[yH _ _ e];exact h.fr u hu
theorem stop_E (hT:Thr T) (hE:EpOk T Ep) (h:EInv T Ep f Q P c L S) (ht:Fre T Ep L t):∃ Q' c',EInv T Ep (zd9 f t 0) Q' (zbw P t { P t with st:=0 }) c' L S:=by
 refine⟨_,_,zgv hT hE h (stop_S (zdV hT) h.ss ht (x:=0) (by omega) (by omega)) (fun i ho h1=>zpS (zdV hT) h.ss ht 0 ho h1) (fun u hu=>yH _ _ fun e=>ht.2 (e ▸ hu)) fun u hu=>?_⟩
 by_cases e:u=t
 ·rw[e,jK];exact⟨.inl rfl,(h.fr t ht).2⟩
 ·rw[yH _ _ e];exact h.fr u hu
theorem zrY (hT:Thr T) (hE:EpOk T Ep) (h:EInv T Ep f Q P c L S) {p:Nat} (hp:p<256) {x:Nat} {r:List Nat} (hQ:Q p=x::r):∃ Q' c',EInv T Ep (zau f x) Q' P c' L S:=by
 obtain⟨hx,_,hq⟩:=h.ss.q.el p x hp (by rw[hQ];simp)
 have out:∀ i,zgm (Fre T Ep L) i->i≠1->zau f x i=f i:=fun i ho h1=>zlI (zdV hT) h.ss hx hq ho h1
 obtain⟨g1,g2,g3⟩:=zrX (zdV hT) h.ss hp hQ
 by_cases h0:c=0
 ·exact⟨_,_,zgv hT hE h (g1 h0) out (fun _ _=>rfl) h.fr⟩
 ·by_cases hle:(P x).pr<=(P c).pr
  ·rw[g2 h0 hle];exact⟨_,_,h⟩
  ·exact⟨_,_,zgv hT hE h (g3 h0 hle) out (fun _ _=>rfl) h.fr⟩
end Go.Ev
end
set_option linter.unusedSimpArgs false
set_option linter.unusedVariables false
noncomputable section
namespace Go.Ev
open Go
variable {T Ep:Nat->Prop} {f:Nat->Int} {Q:Nat->List Nat} {P:Nat->TV} {c t e:Nat} {L:Nat->List Nat} {S:Nat->Int}
def stQ (w:Int):Int:=w % 4
def hdQ (w:Int):Int:=w / 4 % 65536
def tlQ (w:Int):Int:=w / 262144 % 65536
theorem zlj {l:List Nat} {s:Int} (hs:s=1\/s=2) (hl:∀ u∈l,0<u/\u<65536):stQ (zc5 l s)=(if l=[] then 0 else s)/\hdQ (zc5 l s)=(hdN l 0:Nat)/\tlQ (zc5 l s)=(laN l 0:Nat)/\0<=zc5 l s/\zc5 l s<17179869184:=by
 cases l with
 | nil=>exact⟨rfl,rfl,rfl,by show (0:Int)<=0;omega,by show (0:Int)<17179869184;omega⟩
 | cons x r=>
  obtain⟨a,ha⟩:∃ a,hdN (x::r) 0=a:=⟨_,rfl⟩
  obtain⟨b,hb⟩:∃ b,laN (x::r) 0=b:=⟨_,rfl⟩
  have h1:=hl (hdN (x::r) 0) (zw (by simp))
  have h2:=hl (laN (x::r) 0) (zu (by simp))
  rw[ha]at h1
  rw[hb]at h2
  rw[if_neg (by simp),ha,hb]
  have e:zc5 (x::r) s=s+(a:Int)*4+(b:Int)*262144:=by
   show qwV s (hdN (x::r) 0:Nat) (laN (x::r) 0:Nat)=_
   rw[ha,hb];rfl
  rw[e]
  unfold stQ hdQ tlQ
  omega
theorem zag (hT:Thr T) (h:EInv T Ep f Q P c L S) (he:Ep e):∀ u∈L e,0<u/\u<65536:=fun u hu=>by
 have:=(h.w e u he hu).1
 have a:=hT.lo u this
 have b:=hT.hi u this
 omega
theorem jB (hT:Thr T) (h:EInv T Ep f Q P c L S) (he:Ep e):stQ (f e)=(if L e=[] then 0 else S e)/\hdQ (f e)=(hdN (L e) 0:Nat)/\tlQ (f e)=(laN (L e) 0:Nat)/\0<=f e/\f e<17179869184:=by
 rw[h.qw e he]
 exact zlj (h.s e he) (zag hT h he)
theorem zt5 (hT:Thr T) (h:EInv T Ep f Q P c L S) (ht:Fre T Ep L t) (h0:(P t).st=0):(za f t).q=false/\t≠c:=by
 have hr:=h.ss.run t ht
 refine⟨?_,fun e=>?_⟩
 ·cases hq:(za f t).q with
  | false=>rfl
  | true=>have:=hr.2 (.inr hq);rw[h0]at this;omega
 ·have:=hr.2 (.inl e);rw[h0]at this;omega
theorem ziU {g:Nat->Int} {a:Nat} {x:Int} {u:Nat} (h:a<u+16\/u+20<=a):∀ i,u+16<=i->i<u+20->upd g a x i=g i:=fun i h1 h2=>zY _ _ (by omega)
theorem zaS {g:Nat->Int} {u v:Nat} {x:TV} (h:zbf v u):∀ i,u+16<=i->i<u+20->zg g v x i=g i:=fun i h1 h2=>ze _ _ (by unfold zbf at h;omega)
def ze5 (v:TV) (e:Nat) (s z:Int):TV:={ v with st:=s+1,bl:=(e:Nat),pv:=z,nx:=0 }
def zbk (f:Nat->Int) (e t:Nat) (s:Int):Nat->Int:=zg f t (ze5 (za f t) e s (tlQ (f e)))
def zee (f:Nat->Int) (e t:Nat) (s:Int):Nat->Int:=if tlQ (f e)=0 then zbk f e t s else zg (zbk f e t s) (tlQ (f e)).toNat { za (zbk f e t s) (tlQ (f e)).toNat with nx:=(t:Nat) }
def zaa (f:Nat->Int) (e t:Nat) (s:Int):Nat->Int:=upd (zee f e t s) e (qwV s (if tlQ (f e)=0 then (t:Int) else hdQ (f e)) t)
theorem zhj {v:TV} (h:v.Right) {e:Nat} {s z:Int} (he:e<65536) (hs:s=1\/s=2) (hz:0<=z/\z<65536):(ze5 v e s z).Right:=
 ⟨by show 0<=s+1/\s+1<=5;omega,h.pr,h.sl,hz,by show (0:Int)<=0/\(0:Int)<65536;omega,by show (0:Int)<=e/\(e:Int)<65536;omega,h.bd,h.bo,h.ha,h.fk,h.fa⟩
theorem zeO {v:TV} (h:v.Right) {x:Int} (hx:0<=x/\x<65536):TV.Right { v with nx:=x }:=⟨h.st,h.pr,h.sl,h.pv,hx,h.bl,h.bd,h.bo,h.ha,h.fk,h.fa⟩
theorem zl2 {v:TV} (h:v.Right) {x:Int} (hx:0<=x/\x<65536):TV.Right { v with pv:=x }:=⟨h.st,h.pr,h.sl,hx,h.nx,h.bl,h.bd,h.bo,h.ha,h.fk,h.fa⟩
theorem zaq (h:EInv T Ep f Q P c L S) (hu:T t):RightAt f t:=by
 by_cases hw:Wt Ep L t
 ·obtain⟨e,he,hm⟩:=hw
  exact(h.w e t he hm).2.1
 ·exact h.ss.q.thr t ⟨hu,hw⟩
theorem ztq (l:List Nat) (t p:Nat):laN (l ++ [t]) p=t:=by rw[jM];rfl
theorem join_E (hT:Thr T) (hE:EpOk T Ep) (h:EInv T Ep f Q P c L S) (ht:Fre T Ep L t) (h0:(P t).st=0) (he:Ep e) {s:Int} (hs:s=1\/s=2) (hL:L e=[]\/S e=s) :
  EInv T Ep (zaa f e t s) Q (zbw P t { P t with st:=s+1,bl:=(e:Nat) }) c (za3 L e (L e ++ [t])) (fun x=>if x=e then s else S x):=by
 obtain⟨hq,hc⟩:=zt5 hT h ht h0
 obtain⟨w1,w2,w3,_,_⟩:=jB hT h he
 have hlo:=hT.lo t ht.1
 have hhi:=hT.hi t ht.1
 have hel:=hE.lo e he
 have hv:=zh (zaq h ht.1)
 have hnt:t∉L e:=fun hm=>ht.2 ⟨e,he,hm⟩
 obtain⟨z,hz⟩:∃ z,laN (L e) 0=z:=⟨_,rfl⟩
 rw[hz]at w3
 have hz0:z=0 ↔ L e=[]:=by
  constructor
  ·intro e0
   by_cases e2:L e=[]
   ·exact e2
   ·have:=zag hT h he _ (zu (p:=0) e2);omega
  ·intro e0;rw[<- hz,e0];rfl
 have hzl:z<65536:=by
  by_cases e2:L e=[]
  ·rw[hz0.2 e2];decide
  ·have:=zag hT h he _ (zu (p:=0) e2);omega
 have hzm:L e≠[]->z∈L e:=fun e2=>by rw[<- hz];exact zu e2
 have hj:=zhj hv (s:=s) (z:=(z:Nat)) hel.2 hs (by omega)
 -- the words
 have f1:zbk f e t s=zg f t (ze5 (za f t) e s (z:Nat)):=by unfold zbk;rw[w3]
 have lo2:∀ i,i<512->zee f e t s i=f i:=fun i hi=>by
  unfold zee
  rw[w3,f1]
  by_cases e0:z=0
  ·rw[if_pos (by omega),ze _ _ (by omega)]
  ·have hm:=hzm (fun e2=>e0 (hz0.2 e2))
   have:=hT.lo z (h.w e z he hm).1
   rw[if_neg (by omega),Int.toNat_natCast,ze _ _ (by omega),ze _ _ (by omega)]
 have oth:∀ u,T u->u≠t->(L e=[]\/u≠z)->∀ i,u+16<=i->i<u+20->zaa f e t s i=f i:=fun u hu hne hzz i h1 h2=>by
  have ap1:=hT.ap t u ht.1 hu (Ne.symm hne)
  unfold zaa
  rw[ziU (hE.ap e u he hu) i h1 h2]
  unfold zee
  rw[w3,f1]
  by_cases e0:z=0
  ·rw[if_pos (by omega),zaS ap1 i h1 h2]
  ·have hm:=hzm (fun e2=>e0 (hz0.2 e2))
   have ap2:=hT.ap z u (h.w e z he hm).1 hu (fun e2=>hzz.elim (fun e3=>e0 (hz0.2 e3)) fun e3=>e3 e2.symm)
   rw[if_neg (by omega),Int.toNat_natCast,zaS ap2 i h1 h2,zaS ap1 i h1 h2]
 have met:za (zaa f e t s) t=ze5 (za f t) e s (z:Nat)/\RightAt (zaa f e t s) t:=by
  have hu:=hE.ap e t he ht.1
  unfold zaa
  rw[zbB _ _ hu]
  unfold zee
  rw[w3,f1]
  by_cases e0:z=0
  ·rw[if_pos (by omega)]
   exact⟨zap hj,za2 _ hu (yZ hj)⟩
  ·have hm:=hzm (fun e2=>e0 (hz0.2 e2))
   have hne:z≠t:=fun e2=>hnt (e2 ▸ hm)
   have ap:=hT.ap z t (h.w e z he hm).1 ht.1 hne
   rw[if_neg (by omega),Int.toNat_natCast,jf ap]
   exact⟨zap hj,za2 _ hu (yh ap (yZ hj))⟩
 have mez:L e≠[]->za (zaa f e t s) z={ za f z with nx:=(t:Nat) }/\RightAt (zaa f e t s) z:=fun e2=>by
  have hm:=hzm e2
  have hTz:=(h.w e z he hm).1
  have hne:t≠z:=fun e3=>hnt (e3 ▸ hm)
  have ap:=hT.ap t z ht.1 hTz hne
  have hu:=hE.ap e z he hTz
  have hvz:TV.Right { za f z with nx:=((t:Nat):Int) }:=zeO (zh (h.w e z he hm).2.1) (by omega)
  have hz1:z≠0:=fun e3=>e2 (hz0.1 e3)
  unfold zaa
  rw[zbB _ _ hu]
  unfold zee
  rw[w3,f1,if_neg (by omega),Int.toNat_natCast,jf ap]
  exact⟨zap hvz,za2 _ hu (yZ hvz)⟩
 have lo:∀ i,i<512->zaa f e t s i=f i:=fun i hi=>by
  unfold zaa
  rw[zY _ _ (by omega)];exact lo2 i hi
 have epo:∀ e',Ep e'->e'≠e->zaa f e t s e'=f e':=fun e' he' hne=>by
  have h1:=hE.ap e' t he' ht.1
  unfold zaa
  rw[zY _ _ hne]
  unfold zee
  rw[w3,f1]
  by_cases e0:z=0
  ·rw[if_pos (by omega),ze _ _ h1]
  ·have hm:=hzm (fun e2=>e0 (hz0.2 e2))
   have h2:=hE.ap e' z he' (h.w e z he hm).1
   rw[if_neg (by omega),Int.toNat_natCast,ze _ _ h2,ze _ _ h1]
 have epe:zaa f e t s e=zc5 (L e ++ [t]) s:=by
  unfold zaa
  rw[za7,w2,w3]
  cases hl:L e with
  | nil=>
   rw[if_pos (by rw[hz0.2 hl];rfl)]
   rfl
  | cons x r=>
   have:z≠0:=fun e0=>by rw[hz0.1 e0]at hl;cases hl
   rw[if_neg (by omega)]
   show _=qwV s (hdN (x::(r ++ [t])) 0:Nat) (laN (x::r ++ [t]) 0:Nat)
   rw[ztq]
   rfl
 generalize zaa f e t s=g at *
 have wt':∀ u,Wt Ep (za3 L e (L e ++ [t])) u ↔ Wt Ep L u\/u=t:=fun u=>by
  constructor
  ·rintro ⟨e',he',hm⟩
   by_cases e2:e'=e
   ·subst e2
    rw[zP]at hm
    rcases List.mem_append.1 hm with hm | hm
    ·exact .inl ⟨e',he',hm⟩
    ·exact .inr (by simpa using hm)
   ·rw[zQ _ _ e2]at hm
    exact .inl ⟨e',he',hm⟩
  ·rintro (⟨e',he',hm⟩ | rfl)
   ·by_cases e2:e'=e
    ·subst e2
     exact⟨e',he',by rw[zP];simp[hm]⟩
    ·exact⟨e',he',by rw[zQ _ _ e2];exact hm⟩
   ·exact⟨e,he,by rw[zP];simp⟩
 have fre':∀ u,Fre T Ep (za3 L e (L e ++ [t])) u ↔ Fre T Ep L u/\u≠t:=fun u=>by
  unfold Fre
  rw[wt' u]
  constructor
  ·rintro ⟨h1,h2⟩
   exact⟨⟨h1,fun h3=>h2 (.inl h3)⟩,fun h3=>h2 (.inr h3)⟩
  ·rintro ⟨⟨h1,h2⟩,h3⟩
   exact⟨h1,fun h4=>h4.elim h2 h3⟩
 have hPu:∀ u,u≠t->zbw P t { P t with st:=s+1,bl:=(e:Nat) } u=P u:=fun u hu=>yH _ _ hu
 have nz:∀ u,¬ Wt Ep L u->L e=[]\/u≠z:=fun u hu=>by
  by_cases e2:L e=[]
  ·exact .inl e2
  ·exact .inr fun e3=>hu (e3 ▸ ⟨e,he,hzm e2⟩)
 have hPt:zd4 (ze5 (za f t) e s (z:Nat))={ P t with st:=s+1,bl:=(e:Nat) }:=by
  rw[<- h.ss.th t ht];rfl
 refine⟨zg4 (ss_sub h.ss fre' hq hc) lo (fun u hu=>?_) fun u hu=>hPu u ((fre' u).1 hu).2,fun e' u he' hm=>?_,fun e' he'=>?_,fun e' he'=>?_,fun e' e'' u h1 h2 m1 m2=>?_,fun e' he'=>?_,fun e' he'=>?_,fun u hu=>?_⟩
 ·obtain⟨a,b⟩:=(fre' u).1 hu
  exact oth u a.1 b (nz u a.2)
 ·by_cases hut:u=t
  ·subst hut
   have ee:e'=e:=Classical.byContradiction fun e2=>by
    rw[zQ _ _ e2]at hm
    exact ht.2 ⟨e',he',hm⟩
   subst ee
   rw[met.1,jK,if_pos rfl]
   exact⟨ht.1,met.2,hPt,hq,rfl,rfl⟩
  ·have hm':u∈L e':=by
    by_cases e2:e'=e
    ·subst e2
     rw[zP]at hm
     rcases List.mem_append.1 hm with hm | hm
     ·exact hm
     ·exact absurd (by simpa using hm) hut
    ·rw[zQ _ _ e2]at hm;exact hm
   obtain⟨a1,a2,a3,a4,a5,a6⟩:=h.w e' u he' hm'
   rw[hPu u hut]
   have hS:(if e'=e then s else S e')=S e':=by
    by_cases e2:e'=e
    ·subst e2
     rw[if_pos rfl]
     rcases hL with h1 | h1
     ·rw[h1]at hm';cases hm'
     ·exact h1.symm
    ·rw[if_neg e2]
   rw[hS]
   by_cases e3:u=z/\L e≠[]
   ·obtain⟨m1,m2⟩:=mez e3.2
    rw[e3.1,m1]
    rw[e3.1]at a1 a3 a4 a5 a6
    exact⟨a1,m2,a3,a4,a5,a6⟩
   ·have sm:=oth u a1 hut (by
     by_cases e4:L e=[]
     ·exact .inl e4
     ·exact .inr fun e5=>e3 ⟨e5,e4⟩)
    rw[jg sm]
    exact⟨a1,zaG sm a2,a3,a4,a5,a6⟩
 ·show (if e'=e then s else S e')=1\/(if e'=e then s else S e')=2
  split
  ·exact hs
  ·exact h.s e' he'
 ·by_cases e2:e'=e
  ·subst e2
   rw[zP]
   exact List.nodup_append.2 ⟨h.nd e' he',by simp,fun x hx y hy e=>by
    have:y=t:=by simpa using hy
    rw[e,this]at hx;exact hnt hx⟩
  ·rw[zQ _ _ e2];exact h.nd e' he'
 ·have key:∀ e',Ep e'->u∈za3 L e (L e ++ [t]) e'->(u∈L e'/\u≠t)\/(u=t/\e'=e):=fun e' h1 m1=>by
   by_cases e2:e'=e
   ·subst e2
    rw[zP]at m1
    rcases List.mem_append.1 m1 with m1 | m1
    ·exact .inl ⟨m1,fun e=>hnt (e ▸ m1)⟩
    ·exact .inr ⟨by simpa using m1,rfl⟩
   ·rw[zQ _ _ e2]at m1
    exact .inl ⟨m1,fun e=>ht.2 ⟨e',h1,e ▸ m1⟩⟩
  rcases key e' h1 m1 with ⟨a,a'⟩ | ⟨a,a'⟩ <;> rcases key e'' h2 m2 with ⟨b,b'⟩ | ⟨b,b'⟩
  ·exact h.dj e' e'' u h1 h2 a b
  ·exact absurd b a'
  ·exact absurd a b'
  ·rw[a',b']
 ·by_cases e2:e'=e
  ·subst e2
   rw[zP]
   refine j5.2 ⟨zfj (f:=f) (h.nd e' he') (fun u hu=>?_) (fun u hu hne=>?_) (fun hne=>?_) (h.lk e' he'),?_⟩
   ·have hut:u≠t:=fun e=>hnt (e ▸ hu)
    by_cases e3:u=z
    ·rw[e3,(mez (fun e4=>by rw[e4]at hu;cases hu)).1]
    ·rw[jg (oth u (h.w e' u he' hu).1 hut (.inr e3))]
   ·have hut:u≠t:=fun e=>hnt (e ▸ hu)
    rw[hz]at hne
    rw[jg (oth u (h.w e' u he' hu).1 hut (.inr hne))]
   ·rw[hz,(mez hne).1];rfl
   ·rw[hz]
    refine⟨?_,?_,trivial⟩
    ·rw[met.1];rfl
    ·rw[met.1];rfl
  ·rw[zQ _ _ e2]
   refine j4 (fun u hu=>?_) (h.lk e' he')
   have hut:u≠t:=fun e=>ht.2 ⟨e',he',e ▸ hu⟩
   have:L e=[]\/u≠z:=by
    by_cases e4:L e=[]
    ·exact .inl e4
    ·exact .inr fun e5=>e2 (h.dj e' e u he' he hu (e5 ▸ hzm e4))
   rw[jg (oth u (h.w e' u he' hu).1 hut this)];exact⟨rfl,rfl⟩
 ·by_cases e2:e'=e
  ·subst e2
   rw[zP,if_pos rfl];exact epe
  ·rw[zQ _ _ e2,if_neg e2,epo e' he' e2];exact h.qw e' he'
 ·obtain⟨a,b⟩:=(fre' u).1 hu
  rw[hPu u b];exact h.fr u a
end Go.Ev
end
set_option linter.unusedSimpArgs false
set_option linter.unusedVariables false
noncomputable section
namespace Go.Ev
open Go
variable {T Ep:Nat->Prop} {f:Nat->Int} {Q:Nat->List Nat} {P:Nat->TV} {c t e:Nat} {L:Nat->List Nat} {S:Nat->Int}
def zbr (v:TV):TV:={ v with st:=0,bl:=0,bd:=0,g:=false,c:=false,pv:=0,nx:=0 }
def jh (f:Nat->Int) (t:Nat):Nat->Int:=if (za f t).pv=0 then f else zg f (za f t).pv.toNat { za f (za f t).pv.toNat with nx:=(za f t).nx }
def zbz (f:Nat->Int) (t:Nat):Nat->Int:=if (za f t).nx=0 then jh f t else zg (jh f t) (za f t).nx.toNat { za (jh f t) (za f t).nx.toNat with pv:=(za f t).pv }
def zf2 (f:Nat->Int) (e t:Nat):Int:=if (za f t).pv=0 then (za f t).nx else hdQ (f e)
def zje (f:Nat->Int) (e t:Nat):Int:=if (za f t).nx=0 then (za f t).pv else tlQ (f e)
def zpe (f:Nat->Int) (e t:Nat):Int:=qwV (if zf2 f e t=0 then 0 else stQ (f e)) (zf2 f e t) (zje f e t)
def yX (f:Nat->Int) (e t:Nat):Nat->Int:=zg (upd (zbz f t) e (zpe f e t)) t (zbr (za f t))
theorem zdo {v:TV} (h:v.Right):(zbr v).Right:=
 ⟨by show (0:Int)<=0/\(0:Int)<=5;omega,h.pr,h.sl,by show (0:Int)<=0/\(0:Int)<65536;omega,by show (0:Int)<=0/\(0:Int)<65536;omega,by show (0:Int)<=0/\(0:Int)<65536;omega,by show (0:Int)<=0/\(0:Int)<268435456;omega,h.bo,h.ha,h.fk,h.fa⟩
theorem zgC (hT:Thr T) (hE:EpOk T Ep) (h:EInv T Ep f Q P c L S) (he:Ep e) {a b:List Nat} (hab:L e=a ++ t::b) :
  EInv T Ep (yX f e t) Q (zbw P t (zbr (P t))) c (za3 L e (a ++ b)) S:=by
 have htm:t∈L e:=by rw[hab];simp
 obtain⟨hTt,hrt,hct,hqt,_,_⟩:=h.w e t he htm
 obtain⟨w1,w2,w3,_,_⟩:=jB hT h he
 have hlo:=hT.lo t hTt
 have hel:=hE.lo e he
 have hut:=hE.ap e t he hTt
 have hnd:=h.nd e he
 have hlk:=h.lk e he
 rw[hab]at hnd hlk
 obtain⟨na,nb,nab⟩:=List.nodup_append.1 hnd
 have nb':=List.nodup_cons.1 nb
 have nta:t∉a:=fun hx=>nab t hx t (by simp) rfl
 have ntb:t∉b:=nb'.1
 obtain⟨lka,lkt⟩:=j5.1 hlk
 obtain⟨epv,enx,lkb⟩:=lkt
 have ma:∀ u,u∈a->u∈L e:=fun u hu=>by rw[hab];simp[hu]
 have mb:∀ u,u∈b->u∈L e:=fun u hu=>by rw[hab];simp[hu]
 have dab:∀ u,u∈a->u∉b:=fun u hu hv=>nab u hu u (by simp[hv]) rfl
 have hlt:=zag hT h he
 obtain⟨y,hy⟩:∃ y,laN a 0=y:=⟨_,rfl⟩
 obtain⟨x,hx⟩:∃ x,hdN b 0=x:=⟨_,rfl⟩
 rw[hy]at epv
 have enx:(za f t).nx=(x:Nat):=by rw[enx,hx]
 have hy0:y=0 ↔ a=[]:=by
  constructor
  ·intro e0
   by_cases e2:a=[]
   ·exact e2
   ·have:=hlt _ (ma _ (zu (p:=0) e2));omega
  ·intro e0;rw[<- hy,e0];rfl
 have hx0:x=0 ↔ b=[]:=by
  constructor
  ·intro e0
   by_cases e2:b=[]
   ·exact e2
   ·have:=hlt _ (mb _ (zw (n:=0) e2));omega
  ·intro e0;rw[<- hx,e0];rfl
 have hym:y≠0->y∈a:=fun e2=>by rw[<- hy];exact zu fun e3=>e2 (hy0.2 e3)
 have hxm:x≠0->x∈b:=fun e2=>by rw[<- hx];exact zw fun e3=>e2 (hx0.2 e3)
 have hyl:y<65536:=by
  by_cases e2:y=0
  ·omega
  ·have:=hlt _ (ma _ (hym e2));omega
 have hxl:x<65536:=by
  by_cases e2:x=0
  ·omega
  ·have:=hlt _ (mb _ (hxm e2));omega
 have Ty:y≠0->T y/\RightAt f y:=fun e2=>by
  obtain⟨a1,a2,_⟩:=h.w e y he (ma y (hym e2));exact⟨a1,a2⟩
 have Tx:x≠0->T x/\RightAt f x:=fun e2=>by
  obtain⟨a1,a2,_⟩:=h.w e x he (mb x (hxm e2));exact⟨a1,a2⟩
 have yx:y≠0->x≠0->y≠x:=fun e1 e2 e3=>dab y (hym e1) (e3 ▸ hxm e2)
 have yt:y≠0->y≠t:=fun e1 e3=>nta (e3 ▸ hym e1)
 have xt:x≠0->x≠t:=fun e1 e3=>ntb (e3 ▸ hxm e1)
 have l1:jh f t=if y=0 then f else zg f y { za f y with nx:=(x:Nat) }:=by
  unfold jh
  rw[epv,enx,Int.toNat_natCast]
  by_cases e0:y=0
  ·rw[if_pos (by omega),if_pos e0]
  ·rw[if_neg (by omega),if_neg e0]
 have l2:zbz f t=if x=0 then jh f t else zg (jh f t) x { za (jh f t) x with pv:=(y:Nat) }:=by
  unfold zbz
  rw[epv,enx,Int.toNat_natCast]
  by_cases e0:x=0
  ·rw[if_pos (by omega),if_pos e0]
  ·rw[if_neg (by omega),if_neg e0]
 -- the words of the first two steps
 have one:(∀ i,i<512->jh f t i=f i)/\(∀ u,T u->u≠y->∀ i,u+16<=i->i<u+20->jh f t i=f i)/\(∀ e',Ep e'->jh f t e'=f e')/\(y≠0->za (jh f t) y={ za f y with nx:=(x:Nat) }/\RightAt (jh f t) y):=by
  rw[l1]
  by_cases e0:y=0
  ·rw[if_pos e0]
   exact⟨fun _ _=>rfl,fun _ _ _ _ _ _=>rfl,fun _ _=>rfl,fun h=>absurd e0 h⟩
  ·rw[if_neg e0]
   obtain⟨t1,t2⟩:=Ty e0
   have:=hT.lo y t1
   have hv:TV.Right { za f y with nx:=((x:Nat):Int) }:=zeO (zh t2) (by omega)
   exact⟨fun i hi=>ze _ _ (by omega),fun u hu hne=>zaS (hT.ap y u t1 hu (Ne.symm hne)),fun e' he'=>ze _ _ (hE.ap e' y he' t1),fun _=>⟨zap hv,yZ hv⟩⟩
 obtain⟨o1,o2,o3,o4⟩:=one
 have two:(∀ i,i<512->zbz f t i=f i)/\(∀ u,T u->u≠y->u≠x->∀ i,u+16<=i->i<u+20->zbz f t i=f i)/\(∀ e',Ep e'->zbz f t e'=f e')/\(y≠0->za (zbz f t) y={ za f y with nx:=(x:Nat) }/\RightAt (zbz f t) y)/\(x≠0->za (zbz f t) x={ za f x with pv:=(y:Nat) }/\RightAt (zbz f t) x):=by
  rw[l2]
  by_cases e0:x=0
  ·rw[if_pos e0]
   exact⟨o1,fun u hu h1 _=>o2 u hu h1,o3,o4,fun h=>absurd e0 h⟩
  ·rw[if_neg e0]
   obtain⟨t1,t2⟩:=Tx e0
   have:=hT.lo x t1
   have hne:x≠y:=fun e2=>by
    by_cases e3:y=0
    ·exact e0 (e2.trans e3)
    ·exact yx e3 e0 e2.symm
   have sm:=o2 x t1 hne
   have hv:TV.Right { za (jh f t) x with pv:=((y:Nat):Int) }:=zl2 (zh (zaG sm t2)) (by omega)
   refine⟨fun i hi=>by rw[ze _ _ (by omega)];exact o1 i hi,fun u hu h1 h2 i h3 h4=>by rw[zaS (hT.ap x u t1 hu (Ne.symm h2)) i h3 h4];exact o2 u hu h1 i h3 h4,fun e' he'=>by rw[ze _ _ (hE.ap e' x he' t1)];exact o3 e' he',fun e2=>?_,fun _=>⟨by rw[zap hv,jg sm],yZ hv⟩⟩
   obtain⟨g1,g2⟩:=o4 e2
   have ap:=hT.ap x y t1 (Ty e2).1 hne
   exact⟨by rw[jf ap];exact g1,yh ap g2⟩
 obtain⟨p1,p2,p3,p4,p5⟩:=two
 have hlv:=zdo (zh hrt)
 have lo:∀ i,i<512->yX f e t i=f i:=fun i hi=>by
  unfold yX
  rw[ze _ _ (by omega),zY _ _ (by omega)];exact p1 i hi
 have oth:∀ u,T u->u≠t->u≠y->u≠x->∀ i,u+16<=i->i<u+20->yX f e t i=f i:=fun u hu h0 h1 h2 i h3 h4=>by
  unfold yX
  rw[zaS (hT.ap t u hTt hu (Ne.symm h0)) i h3 h4,ziU (hE.ap e u he hu) i h3 h4]
  exact p2 u hu h1 h2 i h3 h4
 have met:za (yX f e t) t=zbr (za f t)/\RightAt (yX f e t) t:=⟨zap hlv,yZ hlv⟩
 have mey:y≠0->za (yX f e t) y={ za f y with nx:=(x:Nat) }/\RightAt (yX f e t) y:=fun e0=>by
  obtain⟨g1,g2⟩:=p4 e0
  have t1:=(Ty e0).1
  have ap:=hT.ap t y hTt t1 (Ne.symm (yt e0))
  have hu:=hE.ap e y he t1
  unfold yX
  rw[jf ap,zbB _ _ hu]
  exact⟨g1,yh ap (za2 _ hu g2)⟩
 have mex:x≠0->za (yX f e t) x={ za f x with pv:=(y:Nat) }/\RightAt (yX f e t) x:=fun e0=>by
  obtain⟨g1,g2⟩:=p5 e0
  have t1:=(Tx e0).1
  have ap:=hT.ap t x hTt t1 (Ne.symm (xt e0))
  have hu:=hE.ap e x he t1
  unfold yX
  rw[jf ap,zbB _ _ hu]
  exact⟨g1,yh ap (za2 _ hu g2)⟩
 have epo:∀ e',Ep e'->e'≠e->yX f e t e'=f e':=fun e' he' hne=>by
  unfold yX
  rw[ze _ _ (hE.ap e' t he' hTt),zY _ _ hne];exact p3 e' he'
 have epe:yX f e t e=zc5 (a ++ b) (S e):=by
  unfold yX
  rw[ze _ _ hut,za7]
  have hH:zf2 f e t=(hdN (a ++ b) 0:Nat):=by
   unfold zf2
   rw[epv,enx,w2,hab,jP,jP]
   cases a with
   | nil=>rw[if_pos (by rw[hy0.2 rfl];rfl)];show ((x:Nat):Int)=(hdN b 0:Nat);rw[hx]
   | cons u r=>
    have:y≠0:=fun e0=>by have:=hy0.1 e0;cases this
    rw[if_neg (by omega)];rfl
  have hTl:zje f e t=(laN (a ++ b) 0:Nat):=by
   unfold zje
   rw[epv,enx,w3,hab,jM,jM]
   cases b with
   | nil=>rw[if_pos (by rw[hx0.2 rfl];rfl)];show ((y:Nat):Int)=(laN a 0:Nat);rw[hy]
   | cons u r=>
    have:x≠0:=fun e0=>by have:=hx0.1 e0;cases this
    rw[if_neg (by omega)];rfl
  unfold zpe
  rw[hH,hTl,w1]
  have hne:L e≠[]:=by rw[hab];simp
  rw[if_neg hne]
  cases hl:a ++ b with
  | nil=>rfl
  | cons u r=>
   have:hdN (u::r) 0≠0:=by
    have hm:u∈a ++ b:=by rw[hl];simp
    have:=hlt u (by
     rcases List.mem_append.1 hm with h1 | h1
     ·exact ma u h1
     ·exact mb u h1)
    show u≠0
    omega
   rw[if_neg (by omega)]
   rfl
 generalize yX f e t=g at *
 have mab:∀ u,u∈a ++ b->u∈L e/\u≠t:=fun u hu=>by
  rcases List.mem_append.1 hu with h1 | h1
  ·exact⟨ma u h1,fun e2=>nta (e2 ▸ h1)⟩
  ·exact⟨mb u h1,fun e2=>ntb (e2 ▸ h1)⟩
 have mba:∀ u,u∈L e->u≠t->u∈a ++ b:=fun u hu hne=>by
  rw[hab]at hu
  rcases List.mem_append.1 hu with h1 | h1
  ·exact List.mem_append.2 (.inl h1)
  ·rcases List.mem_cons.1 h1 with h1 | h1
   ·exact absurd h1 hne
   ·exact List.mem_append.2 (.inr h1)
 have one_e:∀ e',Ep e'->t∈L e'->e'=e:=fun e' he' hm=>h.dj e' e t he' he hm htm
 have wt':∀ u,Wt Ep (za3 L e (a ++ b)) u ↔ Wt Ep L u/\u≠t:=fun u=>by
  constructor
  ·rintro ⟨e',he',hm⟩
   by_cases e2:e'=e
   ·subst e2
    rw[zP]at hm
    obtain⟨h1,h2⟩:=mab u hm
    exact⟨⟨e',he',h1⟩,h2⟩
   ·rw[zQ _ _ e2]at hm
    exact⟨⟨e',he',hm⟩,fun e3=>e2 (one_e e' he' (e3 ▸ hm))⟩
  ·rintro ⟨⟨e',he',hm⟩,hne⟩
   by_cases e2:e'=e
   ·subst e2
    exact⟨e',he',by rw[zP];exact mba u hm hne⟩
   ·exact⟨e',he',by rw[zQ _ _ e2];exact hm⟩
 have htw:Wt Ep L t:=⟨e,he,htm⟩
 have fre':∀ u,Fre T Ep (za3 L e (a ++ b)) u ↔ Fre T Ep L u\/u=t:=fun u=>by
  unfold Fre
  rw[wt' u]
  constructor
  ·rintro ⟨h1,h2⟩
   by_cases e2:u=t
   ·exact .inr e2
   ·exact .inl ⟨h1,fun h3=>h2 ⟨h3,e2⟩⟩
  ·rintro (⟨h1,h2⟩ | rfl)
   ·exact⟨h1,fun h3=>h2 h3.1⟩
   ·exact⟨hTt,fun h3=>h3.2 rfl⟩
 have nfre:¬ Fre T Ep L t:=fun h1=>h1.2 htw
 have ny:∀ u,¬ Wt Ep L u->T u->u≠y/\u≠x:=fun u hu hTu=>by
  have hlo:=hT.lo u hTu
  refine⟨fun e2=>?_,fun e2=>?_⟩
  ·exact hu (e2 ▸ ⟨e,he,ma y (hym (by omega))⟩)
  ·exact hu (e2 ▸ ⟨e,he,mb x (hxm (by omega))⟩)
 have hPu:∀ u,u≠t->zbw P t (zbr (P t)) u=P u:=fun u hu=>yH _ _ hu
 have hPt:zbw P t (zbr (P t)) t=zd4 (za g t):=by
  rw[jK,met.1,<- hct]
  show _=zd4 (zbr (za f t))
  unfold zbr zd4
  simp[hqt]
 have hs1:SS (Fre T Ep L) g Q P c:=zg4 h.ss lo (fun u hu=>by
  obtain⟨a1,a2⟩:=ny u hu.2 hu.1
  exact oth u hu.1 (fun e2=>nfre (e2 ▸ hu)) a1 a2) fun _ _=>rfl
 refine⟨ss_add hs1 fre' nfre (by omega) met.2 (by rw[met.1];exact hqt) (by rw[met.1];rfl) (by rw[met.1];rfl) (by rw[met.1];show (0:Int)≠1;omega) (fun u hu=>hPu u fun e2=>nfre (e2 ▸ hu)) hPt,fun e' u he' hm=>?_,h.s,fun e' he'=>?_,fun e' e'' u h1 h2 m1 m2=>?_,fun e' he'=>?_,fun e' he'=>?_,fun u hu=>?_⟩
 ·obtain⟨⟨e3,he3,hm3⟩,hne⟩:=(wt' u).1 ⟨e',he',hm⟩
  have hm':u∈L e':=by
   by_cases e2:e'=e
   ·subst e2
    rw[zP]at hm;exact(mab u hm).1
   ·rw[zQ _ _ e2]at hm;exact hm
  obtain⟨a1,a2,a3,a4,a5,a6⟩:=h.w e' u he' hm'
  rw[hPu u hne]
  have hlo:=hT.lo u a1
  by_cases e4:u=y
  ·obtain⟨m1,m2⟩:=mey (by omega)
   rw[e4,m1]
   rw[e4]at a1 a3 a4 a5 a6
   exact⟨a1,m2,a3,a4,a5,a6⟩
  ·by_cases e5:u=x
   ·obtain⟨m1,m2⟩:=mex (by omega)
    rw[e5,m1]
    rw[e5]at a1 a3 a4 a5 a6
    exact⟨a1,m2,a3,a4,a5,a6⟩
   ·have sm:=oth u a1 hne e4 e5
    rw[jg sm]
    exact⟨a1,zaG sm a2,a3,a4,a5,a6⟩
 ·by_cases e2:e'=e
  ·subst e2
   rw[zP]
   exact List.nodup_append.2 ⟨na,nb'.2,fun x hx y hy e=>dab x hx (e ▸ hy)⟩
  ·rw[zQ _ _ e2];exact h.nd e' he'
 ·have key:∀ e',u∈za3 L e (a ++ b) e'->u∈L e':=fun e' m1=>by
   by_cases e2:e'=e
   ·subst e2
    rw[zP]at m1;exact(mab u m1).1
   ·rw[zQ _ _ e2]at m1;exact m1
  exact h.dj e' e'' u h1 h2 (key e' m1) (key e'' m2)
 ·by_cases e2:e'=e
  ·subst e2
   rw[zP]
   have Ta:∀ u,u∈a->T u:=fun u hu=>(h.w e' u he' (ma u hu)).1
   have Tb:∀ u,u∈b->T u:=fun u hu=>(h.w e' u he' (mb u hu)).1
   have ax:∀ u,u∈a->u≠x:=fun u hu e3=>by
    have:=hT.lo u (Ta u hu)
    exact dab u hu (e3 ▸ hxm (by omega))
   have by':∀ u,u∈b->u≠y:=fun u hu e3=>by
    have:=hT.lo u (Tb u hu)
    exact dab y (hym (by omega)) (e3 ▸ hu)
   refine j5.2 ⟨zfj (f:=f) na (fun u hu=>?_) (fun u hu hne=>?_) (fun hne=>?_) lka,zh7 (f:=f) nb'.2 (fun u hu=>?_) (fun u hu hne=>?_) (fun hne=>?_) lkb⟩
   ·by_cases e3:u=y
    ·have:=hT.lo u (Ta u hu)
     rw[e3,(mey (by omega)).1]
    ·rw[jg (oth u (Ta u hu) (fun e4=>nta (e4 ▸ hu)) e3 (ax u hu))]
   ·rw[hy]at hne
    rw[jg (oth u (Ta u hu) (fun e4=>nta (e4 ▸ hu)) hne (ax u hu))]
   ·rw[hy,(mey (fun e0=>hne (hy0.1 e0))).1,hx]
   ·by_cases e3:u=x
    ·have:=hT.lo u (Tb u hu)
     rw[e3,(mex (by omega)).1]
    ·rw[jg (oth u (Tb u hu) (fun e4=>ntb (e4 ▸ hu)) (by' u hu) e3)]
   ·rw[hx]at hne
    rw[jg (oth u (Tb u hu) (fun e4=>ntb (e4 ▸ hu)) (by' u hu) hne)]
   ·rw[hx,(mex (fun e0=>hne (hx0.1 e0))).1,hy]
  ·rw[zQ _ _ e2]
   refine j4 (fun u hu=>?_) (h.lk e' he')
   have hTu:=(h.w e' u he' hu).1
   have:=hT.lo u hTu
   rw[jg (oth u hTu (fun e3=>e2 (one_e e' he' (e3 ▸ hu))) (fun e3=>e2 (h.dj e' e u he' he hu (e3 ▸ ma y (hym (by omega))))) (fun e3=>e2 (h.dj e' e u he' he hu (e3 ▸ mb x (hxm (by omega))))))]
   exact⟨rfl,rfl⟩
 ·by_cases e2:e'=e
  ·subst e2
   rw[zP];exact epe
  ·rw[zQ _ _ e2,epo e' he' e2];exact h.qw e' he'
 ·rcases (fre' u).1 hu with h1 | rfl
  ·rw[hPu u (fun e2=>nfre (e2 ▸ h1))];exact h.fr u h1
  ·rw[jK];exact⟨.inl rfl,rfl⟩
theorem set_E (hT:Thr T) (hE:EpOk T Ep) (h:EInv T Ep f Q P c L S) (he:Ep e) (hm:t∈L e) {v:TV} (hv:v.Right) (hq:v.q=(za f t).q) (hpv:v.pv=(za f t).pv) (hnx:v.nx=(za f t).nx) (hbl:v.bl=(za f t).bl) (hst:v.st=(za f t).st) :
  EInv T Ep (zg f t v) Q (zbw P t (zd4 v)) c L S:=by
 obtain⟨hTt,hrt,hct,hqt,hblt,hstt⟩:=h.w e t he hm
 have hlo:=hT.lo t hTt
 have nfre:¬ Fre T Ep L t:=fun h1=>h1.2 ⟨e,he,hm⟩
 have oth:∀ u,T u->u≠t->∀ i,u+16<=i->i<u+20->zg f t v i=f i:=fun u hu hne=>zaS (hT.ap t u hTt hu (Ne.symm hne))
 have hPu:∀ u,u≠t->zbw P t (zd4 v) u=P u:=fun u hu=>yH _ _ hu
 have met:za (zg f t v) t=v/\RightAt (zg f t v) t:=⟨zap hv,yZ hv⟩
 refine⟨zg4 h.ss (fun i hi=>ze _ _ (by omega)) (fun u hu=>oth u hu.1 fun e2=>nfre (e2 ▸ hu)) fun u hu=>hPu u fun e2=>nfre (e2 ▸ hu),fun e' u he' hm'=>?_,h.s,h.nd,h.dj,fun e' he'=>j4 (fun u hu=>?_) (h.lk e' he'),fun e' he'=>by rw[ze _ _ (hE.ap e' t he' hTt)];exact h.qw e' he',fun u hu=>by rw[hPu u fun e2=>nfre (e2 ▸ hu)];exact h.fr u hu⟩
 ·obtain⟨a1,a2,a3,a4,a5,a6⟩:=h.w e' u he' hm'
  by_cases e2:u=t
  ·subst e2
   rw[met.1,jK]
   refine⟨a1,met.2,rfl,hq.trans hqt,?_,?_⟩
   ·show v.bl=_
    rw[hbl,<- a5,<- a3];rfl
   ·show v.st=_
    rw[hst,<- a6,<- a3];rfl
  ·have sm:=oth u a1 e2
   rw[jg sm,hPu u e2]
   exact⟨a1,zaG sm a2,a3,a4,a5,a6⟩
 ·by_cases e2:u=t
  ·rw[e2,met.1];exact⟨hpv,hnx⟩
  ·rw[jg (oth u (h.w e' u he' hu).1 e2)];exact⟨rfl,rfl⟩
end Go.Ev
end
set_option linter.unusedSimpArgs false
set_option linter.unusedVariables false
noncomputable section
namespace Go.Ev
open Go
variable {E:Env} {P:Program}
def cxI (inner:z3) (C:Cx) (c:MC) (o:Nat) (es:List Ent):Cx:=⟨C.fn,fun F=>bc (anyF es F) (some fun l h fa k=>mtH c (zkx o es) inner F l h fa k) (C.hook F),C.fuel⟩
theorem zk4 {Y:Ty} {inner:z3} (hi:zk E P inner) {C:Cx} (hC:CxOk E P Y C) {c:MC} {o:Nat} {es:List Ent} (he:zaW P c E o es):CxOk E P Y (cxI inner C c o es):=by
 refine⟨hC.ty,hC.mixed,hC.fn,fun F s hs=>?_⟩
 have hs:bc (anyF es F) (some fun l h fa k=>mtH c (zkx o es) inner F l h fa k) (C.hook F)=some s:=hs
 cases h1:anyF es F with
 | true=>
  rw[h1]at hs
  have hs:=Option.some.inj (show (some fun l h fa k=>mtH c (zkx o es) inner F l h fa k)=some s from hs)
  subst hs
  intro G l h fa k hk hfa
  obtain⟨hG,hk2⟩:=zK (show bc (Nat.beq G F) (mtH c (zkx o es) inner F l h fa k) 1=0 from hk) (by simp)
  have hG:G=F:=by simpa using hG
  subst hG
  exact mtH_ok (zo6 he) hi _ _ _ _ _ hk2 hfa
 | false=>
  rw[h1]at hs
  exact hC.hook F s hs
end Go.Ev
end
set_option linter.unusedSimpArgs false
set_option linter.unusedVariables false
noncomputable section
namespace Go.Ev
open Go
variable {E:Env} {P:Program} {c:MC}
structure Sh where
 F:Nat
 l:List V
 v:V
def zgj:Nat->List Sh->List Ent
 | _,[]=>[]
 | i,s::r=>⟨s.F,s.l,i+1,s.v,.v (9000+i)⟩::zgj (i+1) r
def sumS:SE->Nat->List Sh->SE
 | e,_,[]=>e
 | e,i,_::r=>sumS (.op .add .i64 e (.v (9000+i))) (i+1) r
def zea (C:Cx) (c:MC) (sh:List Sh) (ps:List PEnt) (F:Nat) (l:List V) (fs:List (SB × Bool)) (v:V):Nat:=
 zaM (cxI (zaM C 20) (cxM C c 0 [] ps) c 0 (zgj 0 sh)) 20 F (.ptr (.o .h) 0::l) (hMem c 0 .nil) ⟨fs,[]⟩ (okM c v sh.length .nil (sumS (.v 5) 0 sh))
def AgV (E:Env) (vs:Nat->Int):Prop:=∀ i,i<9000->i≠5->E.i i=vs i
inductive Chain (P:Program) (c:MC) (vs:Nat->Int):List Sh->(Nat->Int)->(Nat->Int)->Nat->Prop where
 | nil (f:Nat->Int):Chain P c vs [] f f 0
 | cons {s:Sh} {r:List Sh} {f g f':Nat->Int} {k K:Nat} {args:List Value} {ret:Value}:1<=k->zaO P c s.F args f ret g k->(∀ E,AgV E vs->∀ ρ,γL E ρ s.l=args)->(∀ E,AgV E vs->∀ ρ,s.v.γ E ρ=ret)->Chain P c vs r g f' K->Chain P c vs (s::r) f f' (k+K)
theorem zq0 {vs:Nat->Int} {a b:List Sh} {f g f':Nat->Int} {j k:Nat} (h:Chain P c vs a f g j) (h2:Chain P c vs b g f' k):Chain P c vs (a ++ b) f f' (j+k):=by
 induction h with
 | nil f=>simpa using h2
 | cons h1 hm ha hv _ ih=>
  have:=Chain.cons h1 hm ha hv (ih h2)
  rw[<- Nat.add_assoc]at this
  exact this
theorem zdY {vs:Nat->Int} {sh:List Sh} {f f':Nat->Int} {K:Nat} (h:Chain P c vs sh f f' K):∀ i0,∃ (ks:Nat->Nat) (rows:Nat->Nat->Int),rows i0=f/\rows (i0+sh.length)=f' /\
  ∀ E:Env,AgV E vs->(∀ j,i0<=j->j<i0+sh.length->E.i (9000+j)=(ks j:Nat))->(∀ j,i0<=j->j<=i0+sh.length->yo (E.s j).cs c.N (rows j))->zaW P c E i0 (zgj i0 sh)/\∀ e k0 st,e.den E=za9 st k0->(sumS e i0 sh).den E=za9 st (k0+K):=by
 induction h with
 | nil f=>exact fun i0=>⟨fun _=>0,fun _=>f,rfl,rfl,fun E _ _ _=>⟨trivial,fun e k0 st he=>he⟩⟩
 | @cons s r f g f' k K args ret h1 hm ha hv _ ih=>
  intro i0
  obtain⟨ks,rows,r0,r1,hall⟩:=ih (i0+1)
  refine⟨fun j=>if j=i0 then k else ks j,fun j=>if j=i0 then f else rows j,if_pos rfl,?_,fun E hE hk hr=>?_⟩
  ·show (if i0+(r.length+1)=i0 then f else rows (i0+(r.length+1)))=f'
   rw[if_neg (by omega),show i0+(r.length+1)=i0+1+r.length from by omega];exact r1
  ·have hl:(s::r).length=r.length+1:=rfl
   rw[hl]at hk hr
   have w0:yo (E.s i0).cs c.N f:=by
    have:=hr i0 (by omega) (by omega)
    simp only[if_pos]at this
    exact this
   have w1:yo (E.s (i0+1)).cs c.N g:=by
    have:=hr (i0+1) (by omega) (by omega)
    simp only[if_neg (show ¬ i0+1=i0 by omega),r0]at this
    exact this
   have hk0:E.i (9000+i0)=(k:Nat):=by have:=hk i0 (by omega) (by omega);simp only[if_pos]at this;exact this
   obtain⟨g1,g2⟩:=hall E hE (fun j h2 h3=>by have:=hk j (by omega) (by omega);simp only[if_neg (show ¬ j=i0 by omega)]at this;exact this) (fun j h2 h3=>by have:=hr j (by omega) (by omega);simp only[if_neg (show ¬ j=i0 by omega)]at this;exact this)
   refine⟨⟨⟨f,g,k,h1,hk0,w0,w1,fun ρ=>by
    show zaO P c s.F (γL E ρ s.l) f (s.v.γ E ρ) g k
    rw[ha E hE ρ,hv E hE ρ];exact hm⟩,g1⟩,fun e k0 st he=>?_⟩
   have:=g2 (.op .add .i64 e (.v (9000+i0))) (k0+k) st (zc he hk0 h1)
   rw[Nat.add_assoc]at this
   exact this
theorem memC_ch {Y:Ty} {C:Cx} (hC:∀ E,CxOk E P Y C) (hN:c.N<=8192) {F:Nat} {sh:List Sh} {ps:List PEnt} {l:List V} {fs:List (SB × Bool)} {v:V} {args:List Value} {ret:Value} (hr:zea C c sh ps F l fs v=0) (hl:zcJ .h l=true)
  {vs:Nat->Int} {f f':Nat->Int} {K:Nat} (h:Chain P c vs sh f f' K) (hfs:∀ E,AgV E vs->j8 E fs) (hps:∀ E,AgV E vs->PsOk P E ps) (ha:∀ E,AgV E vs->∀ ρ,γL E ρ l=args) (hv:∀ E,AgV E vs->∀ ρ,v.γ E ρ=ret):zaO P c F args f ret f' K:=by
 obtain⟨ks,rows,r0,r1,hall⟩:=zdY h 0
 rw[Nat.zero_add]at r1
 refine zck hN (zc1 (n:=.h) l hl) (fun i v _ hv=>by rw[Tr.get_nil]at hv;cases hv) (fun st=>?_) hr
 obtain⟨E,hE⟩:∃ E:Env,E=jA c.N st (fun i=>if i<9000 then vs i else (ks (i - 9000):Nat)) rows:=⟨_,rfl⟩
 have e5:E.i 5=st:=by rw[hE];rfl
 have eA:AgV E vs:=fun i h1 h2=>by
  rw[hE]
  show (if i=5 then st else if i<9000 then vs i else _)=_
  rw[if_neg h2,if_pos h1]
 have eW:∀ q,yo (E.s q).cs c.N (rows q):=fun q=>by rw[hE];exact jU _ _
 obtain⟨g1,g2⟩:=hall E eA (fun j _ _=>by
  rw[hE]
  show (if 9000+j=5 then st else if 9000+j<9000 then vs (9000+j) else ((ks (9000+j - 9000):Nat):Int))=_
  rw[if_neg (by omega),if_neg (by omega),show 9000+j - 9000=j from by omega]) (fun j _ _=>eW j)
 refine⟨E,e5,?_,jq (zk4 (jq (hC E) 20) (zhW (es:=[]) (hC E) trivial (zn (hps E eA))) g1) 20,zm (hfs E eA) trivial,zcC (by have:=eW 0;rw[r0]at this;exact this),zcC (by have:=eW sh.length;rw[r1]at this;exact this),ha E eA,hv E eA⟩
 have:=g2 (.v 5) 0 st (by show E.i 5=za9 st 0;rw[e5];rfl)
 rw[Nat.zero_add]at this
 exact this
end Go.Ev
end
set_option linter.unusedSimpArgs false
set_option linter.unusedVariables false
noncomputable section
namespace Go.Ev
open Go
variable {T:Nat->Prop} {f g:Nat->Int} {t:Nat}
def zcD (g:Nat->Int) (x:Nat) (p n:Nat):Nat->Int:=zg g x { za g x with pv:=(p:Nat),nx:=(n:Nat) }
def zcV (g:Nat->Int):Nat->List Nat->Nat->(Nat->Int)
 | _,[],_=>g
 | p,x::r,n=>zcV (zcD g x p (hdN r n)) x r n
theorem zeZ:∀ {a b:List Nat} {g:Nat->Int} {p n:Nat},zcV g p (a ++ b) n=zcV (zcV g p a (hdN b n)) (laN a p) b n
 | [],b,g,p,n=>rfl
 | x::r,b,g,p,n=>by
  show zcV (zcD g x p (hdN (r ++ b) n)) x (r ++ b) n=zcV (zcV (zcD g x p (hdN r (hdN b n))) x r (hdN b n)) (laN r x) b n
  rw[jP]
  exact zeZ
theorem zl3 {v:TV} (h:v.Right) {p n:Nat} (hp:p<65536) (hn:n<65536):TV.Right { v with pv:=(p:Nat),nx:=(n:Nat) }:=⟨h.st,h.pr,h.sl,by show 0<=(p:Int)/\(p:Int)<65536;omega,by show 0<=(n:Int)/\(n:Int)<65536;omega,h.bl,h.bd,h.bo,h.ha,h.fk,h.fa⟩
theorem zn6 (hT:Thr T) (h:∀ u,T u->RightAt g u) {x p n:Nat} (hx:T x) (hp:p<65536) (hn:n<65536):∀ u,T u->RightAt (zcD g x p n) u:=fun u hu=>by
 unfold zcD
 by_cases e:u=x
 ·subst e;exact yZ (zl3 (zh (h u hu)) hp hn)
 ·exact yh (hT.ap x u hx hu (Ne.symm e)) (h u hu)
theorem zhC (hT:Thr T):∀ {l:List Nat} {g:Nat->Int} {p n:Nat},(∀ u,T u->RightAt g u)->(∀ u∈l,T u)->p<65536->n<65536->∀ u,T u->RightAt (zcV g p l n) u
 | [],g,p,n,h,_,_,_=>h
 | x::r,g,p,n,h,hl,hp,hn=>by
  have hx:=hl x (by simp)
  have hh:hdN r n<65536:=by
   cases r with
   | nil=>exact hn
   | cons y s=>have:=hT.hi y (hl y (by simp));show y<65536;omega
  show ∀ u,T u->RightAt (zcV (zcD g x p (hdN r n)) x r n) u
  exact zhC hT (l:=r) (zn6 hT h hx hp hh) (fun u hu=>hl u (List.mem_cons_of_mem _ hu)) (by have:=hT.hi x hx;omega) hn
theorem zjd:∀ {l:List Nat} {g:Nat->Int} {p n:Nat},(∀ u∈l,RightAt g u)->Lk g p l n->zcV g p l n=g
 | [],_,_,_,_,_=>rfl
 | x::r,g,p,n,h,hl=>by
  obtain⟨h1,h2,h3⟩:=hl
  have e:zcD g x p (hdN r n)=g:=by
   unfold zcD
   rw[<- h1,<- h2]
   exact ziY (h x (by simp))
  show zcV (zcD g x p (hdN r n)) x r n=g
  rw[e]
  exact zjd (fun u hu=>h u (List.mem_cons_of_mem _ hu)) h3
theorem zfC (hT:Thr T):∀ {l:List Nat} {g:Nat->Int} {p n n':Nat},(∀ u∈l,T u)->(∀ u∈l,RightAt g u)->l.Nodup->Lk g p l n->zcV g p l n'=if l=[] then g else zg g (laN l p) { za g (laN l p) with nx:=(n':Nat) }
 | [],_,_,_,_,_,_,_,_=>rfl
 | [x],g,p,n,n',hl,h,hn,hk=>by
  rw[if_neg (by simp)]
  show zcD g x p n'=zg g x { za g x with nx:=(n':Nat) }
  unfold zcD
  rw[<- hk.1]
 | x::y::r,g,p,n,n',hl,h,hn,hk=>by
  obtain⟨h1,h2,h3⟩:=hk
  have e:zcD g x p (hdN (y::r) n')=g:=by
   have h2:(za g x).nx=(y:Nat):=h2
   show zg g x { za g x with pv:=(p:Nat),nx:=(y:Nat) }=g
   rw[<- h1,<- h2]
   exact ziY (h x (by simp))
  show zcV (zcD g x p (hdN (y::r) n')) x (y::r) n'=_
  rw[e,if_neg (by simp)]
  have:=zfC hT (l:=y::r) (g:=g) (p:=x) (n:=n) (n':=n') (fun u hu=>hl u (List.mem_cons_of_mem _ hu)) (fun u hu=>h u (List.mem_cons_of_mem _ hu)) (List.nodup_cons.1 hn).2 h3
  rw[if_neg (by simp)]at this
  rw[this]
  rfl
theorem zn4 (hT:Thr T) {l:List Nat} {p p' n:Nat} (hl:∀ u∈l,T u) (h:∀ u∈l,RightAt g u) (hn:l.Nodup) (hp':p'<65536) (hk:Lk g p l n):zcV g p' l n=if l=[] then g else zg g (hdN l 0) { za g (hdN l 0) with pv:=(p':Nat) }:=by
 cases l with
 | nil=>rfl
 | cons x r=>
  obtain⟨h1,h2,h3⟩:=hk
  rw[if_neg (by simp)]
  have hx:=hl x (by simp)
  have hnx:=(List.nodup_cons.1 hn).1
  have e:zcD g x p' (hdN r n)=zg g x { za g x with pv:=(p':Nat) }:=by
   unfold zcD
   rw[<- h2]
  show zcV (zcD g x p' (hdN r n)) x r n=zg g x { za g x with pv:=(p':Nat) }
  rw[e]
  have hne:∀ u∈r,x≠u:=fun u hu e=>hnx (e ▸ hu)
  have ap:∀ u∈r,zbf x u:=fun u hu=>hT.ap x u hx (hl u (List.mem_cons_of_mem _ hu)) (hne u hu)
  refine zjd (fun u hu=>yh (ap u hu) (h u (List.mem_cons_of_mem _ hu))) (j4 (fun u hu=>?_) h3)
  rw[jf (ap u hu)];exact⟨rfl,rfl⟩
def ze0 (g:Nat->Int) (l:List Nat) (i:Nat):Nat->Int:=zcV g 0 (l.take i) (l.getD i 0)
theorem lnkI_0 (l:List Nat):ze0 g l 0=g:=rfl
theorem lnkI_n (l:List Nat):ze0 g l l.length=zcV g 0 l 0:=by
 unfold ze0
 rw[List.take_length,List.getD_eq_getElem?_getD,List.getElem?_eq_none (by omega)];rfl
theorem zmv {l:List Nat}:∀ {i:Nat},i<=l.length->laN (l.take i) 0=if i=0 then 0 else l.getD (i - 1) 0
 | 0,_=>rfl
 | i+1,h=>by
  rw[if_neg (by omega),List.take_succ_eq_append_getElem (by omega),jM,List.getD_eq_getElem?_getD,show i+1 - 1=i from by omega,List.getElem?_eq_getElem (by omega)]
  rfl
theorem lnkI_s {l:List Nat} {i:Nat} (h:i<l.length):ze0 g l (i+1)=zcD (ze0 g l i) (l.getD i 0) (if i=0 then 0 else l.getD (i - 1) 0) (l.getD (i+1) 0):=by
 have e:l.getD i 0=l[i]:=by rw[List.getD_eq_getElem?_getD,List.getElem?_eq_getElem h];rfl
 unfold ze0
 rw[List.take_succ_eq_append_getElem h,zeZ,zmv (by omega),<- e]
 rfl
theorem zn5 (hT:Thr T) {l:List Nat} (h:∀ u,T u->RightAt g u) (hl:∀ u∈l,T u) {i:Nat} (hi:i<=l.length):∀ u,T u->RightAt (ze0 g l i) u:=by
 refine zhC hT h (fun u hu=>hl u (List.mem_of_mem_take hu)) (by omega) ?_
 by_cases e:i<l.length
 ·have:l.getD i 0∈l:=by
   rw[List.getD_eq_getElem?_getD,List.getElem?_eq_getElem e];exact List.getElem_mem _
  have:=hT.hi _ (hl _ this)
  omega
 ·rw[List.getD_eq_getElem?_getD,List.getElem?_eq_none (by omega)]
  decide
end Go.Ev
end
set_option linter.unusedSimpArgs false
set_option linter.unusedVariables false
noncomputable section
namespace Go.Ev
open Go
variable {T Ep:Nat->Prop} {f:Nat->Int} {Q:Nat->List Nat} {P:Nat->TV} {c t e:Nat} {L:Nat->List Nat} {S:Nat->Int}
def blkV (v:TV) (e:Nat) (s:Int):TV:={ v with st:=s+1,bl:=(e:Nat) }
theorem zi0 {v:TV} (h:v.Right) {e:Nat} {s:Int} (he:e<65536) (hs:s=1\/s=2):(blkV v e s).Right:=
 ⟨by show 0<=s+1/\s+1<=5;omega,h.pr,h.sl,h.pv,h.nx,by show (0:Int)<=e/\(e:Int)<65536;omega,h.bd,h.bo,h.ha,h.fk,h.fa⟩
theorem zhD (hT:Thr T) {v:TV} (ht:T t) {l:List Nat} (hl:∀ u∈l,T u/\u≠t) {p n:Nat} (h:Lk f p l n):Lk (zg f t v) p l n:=
 j4 (fun u hu=>by rw[jf (hT.ap t u ht (hl u hu).1 (Ne.symm (hl u hu).2))];exact⟨rfl,rfl⟩) h
theorem ztz (hT:Thr T) (hE:EpOk T Ep) (h:EInv T Ep f Q P c L S) (ht:Fre T Ep L t) (he:Ep e) {s:Int} (hs:s=1\/s=2) :
  upd (zcV (zg f t (blkV (za f t) e s)) 0 (L e ++ [t]) 0) e (qwV s (hdN (L e ++ [t]) 0:Nat) t)=zaa f e t s:=by
 obtain⟨w1,w2,w3,_,_⟩:=jB hT h he
 have hel:=hE.lo e he
 have hv:=zh (zaq h ht.1)
 have hnt:t∉L e:=fun hm=>ht.2 ⟨e,he,hm⟩
 have hb:=zi0 hv hel.2 hs (s:=s)
 obtain⟨z,hz⟩:∃ z,laN (L e) 0=z:=⟨_,rfl⟩
 rw[hz]at w3
 have hlT:∀ u∈L e,T u:=fun u hu=>(h.w e u he hu).1
 have hlr:∀ u∈L e,RightAt (zg f t (blkV (za f t) e s)) u:=fun u hu=>yh (hT.ap t u ht.1 (hlT u hu) fun e2=>hnt (e2 ▸ hu)) (h.w e u he hu).2.1
 have hlk:=zhD hT (v:=blkV (za f t) e s) ht.1 (fun u hu=>⟨hlT u hu,fun e2=>hnt (e2 ▸ hu)⟩) (h.lk e he)
 have last:=zfC hT (n':=t) hlT hlr (h.nd e he) hlk
 rw[zeZ,show hdN [t] 0=t from rfl,last,hz]
 show upd (zcD (if L e=[] then _ else _) t z 0) e _=_
 unfold zaa zee zbk
 rw[w3]
 by_cases e0:L e=[]
 ·have z0:z=0:=by rw[<- hz,e0];rfl
  rw[if_pos e0,z0,if_pos (by rfl),if_pos (by rfl),e0]
  congr 1
  unfold zcD
  rw[zap hb,zhf]
  rfl
 ·have hm:z∈L e:=by rw[<- hz];exact zu e0
  have hz0:=zag hT h he z hm
  have hne:t≠z:=fun e2=>hnt (e2 ▸ hm)
  have ap:=hT.ap t z ht.1 (hlT z hm) hne
  have ap':zbf z t:=hT.ap z t (hlT z hm) ht.1 (Ne.symm hne)
  have hd:hdN (L e ++ [t]) 0=hdN (L e) 0:=by
   cases hl:L e with
   | nil=>exact absurd hl e0
   | cons x r=>rfl
  rw[if_neg e0,if_neg (by omega),if_neg (by omega),hd,w2,Int.toNat_natCast]
  congr 1
  unfold zcD
  rw[jf ap',zap hb,jf ap,jf ap,zfs _ _ _ ap',zhf]
  rfl
theorem zqs (hT:Thr T) (hE:EpOk T Ep) (h:EInv T Ep f Q P c L S) (he:Ep e) {a b:List Nat} (hab:L e=a ++ t::b):zpe f e t=zc5 (a ++ b) (S e):=by
 have:=(zgC hT hE h he hab).qw e he
 rw[zP]at this
 rw[<- this]
 have hTt:=(h.w e t he (by rw[hab];simp)).1
 unfold yX
 rw[ze _ _ (hE.ap e t he hTt),za7]
theorem zqr (hT:Thr T) (hE:EpOk T Ep) (h:EInv T Ep f Q P c L S) (he:Ep e) {a b:List Nat} (hab:L e=a ++ t::b) :
  upd (zcV (zg f t (zbr (za f t))) 0 (a ++ b) 0) e (zc5 (a ++ b) (S e))=yX f e t:=by
 have htm:t∈L e:=by rw[hab];simp
 obtain⟨hTt,hrt,_⟩:=h.w e t he htm
 have hut:=hE.ap e t he hTt
 have hnd:=h.nd e he
 have hlk:=h.lk e he
 rw[hab]at hnd hlk
 obtain⟨na,nb,nab⟩:=List.nodup_append.1 hnd
 have nb':=List.nodup_cons.1 nb
 have nta:t∉a:=fun hx=>nab t hx t (by simp) rfl
 have ntb:t∉b:=nb'.1
 obtain⟨lka,epv,enx,lkb⟩:=j5.1 hlk
 have ma:∀ u,u∈a->u∈L e:=fun u hu=>by rw[hab];simp[hu]
 have mb:∀ u,u∈b->u∈L e:=fun u hu=>by rw[hab];simp[hu]
 have dab:∀ u,u∈a->u∉b:=fun u hu hv=>nab u hu u (by simp[hv]) rfl
 have Ta:∀ u∈a,T u:=fun u hu=>(h.w e u he (ma u hu)).1
 have Tb:∀ u∈b,T u:=fun u hu=>(h.w e u he (mb u hu)).1
 have hlt:=zag hT h he
 obtain⟨lv,hlv⟩:∃ lv,lv=zbr (za f t):=⟨_,rfl⟩
 rw[<- zqs hT hE h he hab]
 unfold yX
 rw[<- hlv,zr0 _ _ _ hut]
 congr 1
 have apt:∀ u,T u->u≠t->zbf t u:=fun u hu hne=>hT.ap t u hTt hu (Ne.symm hne)
 have na':∀ u∈a,u≠t:=fun u hu e2=>nta (e2 ▸ hu)
 have nbt:∀ u∈b,u≠t:=fun u hu e2=>ntb (e2 ▸ hu)
 have last:=zfC hT (g:=zg f t lv) (p:=0) (n:=t) (n':=hdN b 0) Ta (fun u hu=>yh (apt u (Ta u hu) (na' u hu)) (h.w e u he (ma u hu)).2.1) na (zhD hT hTt (fun u hu=>⟨Ta u hu,na' u hu⟩) lka)
 rw[zeZ,last]
 have y0:laN a 0=0 ↔ a=[]:=by
  constructor
  ·intro e0
   by_cases e2:a=[]
   ·exact e2
   ·have:=hlt _ (ma _ (zu (p:=0) e2));omega
  ·intro e0;rw[e0];rfl
 have x0:hdN b 0=0 ↔ b=[]:=by
  constructor
  ·intro e0
   by_cases e2:b=[]
   ·exact e2
   ·have:=hlt _ (mb _ (zw (n:=0) e2));omega
  ·intro e0;rw[e0];rfl
 have l1:jh f t=if a=[] then f else zg f (laN a 0) { za f (laN a 0) with nx:=(hdN b 0:Nat) }:=by
  unfold jh
  rw[epv,enx,Int.toNat_natCast]
  by_cases e0:a=[]
  ·have:laN a 0=0:=y0.2 e0
   rw[if_pos (by omega),if_pos e0]
  ·have:laN a 0≠0:=fun e2=>e0 (y0.1 e2)
   rw[if_neg (by omega),if_neg e0]
 have l2:zbz f t=if b=[] then jh f t else zg (jh f t) (hdN b 0) { za (jh f t) (hdN b 0) with pv:=(laN a 0:Nat) }:=by
  unfold zbz
  rw[epv,enx,Int.toNat_natCast]
  by_cases e0:b=[]
  ·have:hdN b 0=0:=x0.2 e0
   rw[if_pos (by omega),if_pos e0]
  ·have:hdN b 0≠0:=fun e2=>e0 (x0.1 e2)
   rw[if_neg (by omega),if_neg e0]
 -- the first half
 have h1:(if a=[] then zg f t lv else zg (zg f t lv) (laN a 0) { za (zg f t lv) (laN a 0) with nx:=(hdN b 0:Nat) })=zg (jh f t) t lv:=by
  rw[l1]
  by_cases e0:a=[]
  ·rw[if_pos e0,if_pos e0]
  ·have hm:=zu (p:=0) e0
   have hTy:=Ta _ hm
   have ap:=apt _ hTy (na' _ hm)
   rw[if_neg e0,if_neg e0,jf ap,zfs _ _ _ ap]
 rw[h1]
 have hra:∀ u,T u->u∈b->RightAt (jh f t) u/\(u≠laN a 0\/a=[]):=fun u hu hub=>by
  rw[l1]
  by_cases e0:a=[]
  ·rw[if_pos e0];exact⟨(h.w e u he (mb u hub)).2.1,.inr e0⟩
  ·have hm:=zu (p:=0) e0
   have hne:laN a 0≠u:=fun e2=>dab _ hm (e2 ▸ hub)
   rw[if_neg e0]
   exact⟨yh (hT.ap _ u (Ta _ hm) hu hne) (h.w e u he (mb u hub)).2.1,.inl (Ne.symm hne)⟩
 have lkb1:Lk (jh f t) t b 0:=by
  rw[l1]
  by_cases e0:a=[]
  ·rw[if_pos e0];exact lkb
  ·have hm:=zu (p:=0) e0
   rw[if_neg e0]
   exact zhD hT (Ta _ hm) (fun u hu=>⟨Tb u hu,fun e2=>dab _ hm (e2 ▸ hu)⟩) lkb
 have hy6:laN a 0<65536:=by
  by_cases e0:a=[]
  ·rw[y0.2 e0];decide
  ·have:=hlt _ (ma _ (zu (p:=0) e0));omega
 have first:=zn4 hT (g:=zg (jh f t) t lv) (p:=t) (p':=laN a 0) (n:=0) Tb (fun u hu=>yh (apt u (Tb u hu) (nbt u hu)) (hra u (Tb u hu) hu).1) nb'.2 hy6 (zhD hT hTt (fun u hu=>⟨Tb u hu,nbt u hu⟩) lkb1)
 rw[first,l2]
 by_cases e0:b=[]
 ·rw[if_pos e0,if_pos e0]
 ·have hm:=zw (n:=0) e0
  have ap:=apt _ (Tb _ hm) (nbt _ hm)
  rw[if_neg e0,if_neg e0,jf ap,zfs _ _ _ ap]
end Go.Ev
end
set_option linter.unusedSimpArgs false
set_option linter.unusedVariables false
noncomputable section
namespace Go.Ev
open Go
variable {E:Env} {P:Program}
structure LdE where
 F:Nat
 q:Nat
 q':Nat
 a:V
 x:V
 v:Nat
def cxH (C:Cx) (F:Nat) (s:List V->H->Fa->K->Nat):Cx:=⟨C.fn,fun G=>bc (Nat.beq G F) (some s) (C.hook G),C.fuel⟩
theorem cxH_ok {Y:Ty} {C:Cx} (hC:CxOk E P Y C) {F:Nat} {s:List V->H->Fa->K->Nat} (h:zk E P (fun G l h fa k=>bc (Nat.beq G F) (s l h fa k) 1)):CxOk E P Y (cxH C F s):=by
 refine⟨hC.ty,hC.mixed,hC.fn,fun G s' hs=>?_⟩
 have hs:bc (Nat.beq G F) (some s) (C.hook G)=some s':=hs
 cases e1:Nat.beq G F with
 | true=>
  rw[e1]at hs
  have hs:=Option.some.inj (show some s=some s' from hs)
  have e1:G=F:=by simpa using e1
  subst hs e1
  exact h
 | false=>
  rw[e1]at hs
  exact hC.hook G s' hs
end Go.Ev
end
set_option linter.unusedSimpArgs false
set_option linter.unusedVariables false
noncomputable section
namespace Go.Ev
open Go Go.RowKit
variable {E E':Env} {P:Program} {N:Nat}
theorem zuz {Y:Ty} (hY:TyOk P Y) (hm:P.follows .mixedOrders=true) {dr:Nat->Option Dr} {F:Nat} {f:Func} {q:CutX} (hfn:P.funcs[F]? = some f) (hc:cutX Y dr f=some q) (hw:zf8 dr f=true)
  {st:Nat->GS} {Inv:Nat->Nat->Env->Prop}
  (round:∀ m j E,Inv m j E->∃ g fa nx,zk E P g.call/\FaOk E fa/\runJ st q.x q.z (koB q.rs) g j fa nx=0/\zpM st Inv E nx m)
  {E:Env} {g0:Ctx} (h0:zk E P g0.call) {l:List V} {h00:H} {fa:Fa} (hfa:FaOk E fa) {nx:List (Nat × Sg)} (m:Nat) (hl:zpM st Inv E nx m)
  (hin:zfI l (fun fr=>zIn q.z g0 fr h00 fa (fun fr h _=>zhx st nx fr h) (koB q.rs))=0)
  {ρ:Rho} {w:World} (hs:Sat E ρ h00 w) (hbd:bdL h00.n.toNat l) (zcs:∀ p o,h00.t.get p=some o->o.live=true->h00.lo.toNat<=p.toNat->w.heap.size<=(ρ p).b) :
  Calls P F (γL E ρ l).toArray w fun e w'=>e=.returned (.bool true)/\Below w.heap.size w w':=by
 unfold cutX at hc
 split at hc
 rotate_left
 ·simp at hc
 rename_i c rs hb hrs
 split at hc
 rotate_left
 ·simp at hc
 rename_i z x hz
 simp at hc;subst hc
 have hcz:=zgn hz
 subst hcz
 unfold zf8 at hw
 rw[hb]at hw
 obtain⟨hB1,hB2⟩:=zeS hw
 obtain⟨fr,hk,hfr⟩:=zfG hin
 refine calls_of_wp hfn hb ?_
 have hf:yr E ρ h00.n.toNat fr ((γL E ρ l).toArray ++ Array.replicate (f.ntmps - (γL E ρ l).toArray.size) undef):=by
  intro t v hv
  have h2:=hfr t v hv
  have ht:t<l.length:=(List.getElem?_eq_some_iff.1 h2).1
  refine⟨?_,(js _ l).1 hbd v (List.mem_of_getElem? h2)⟩
  rw[Array.getElem?_append_left (by simp[γL_length];exact ht)]
  simp[γL_get,h2]
 have kB:=fun E=>zts (N:=f.ntmps) hY hrs w h00.lo E
 have L:=ziA (N:=f.ntmps) (w0:=w) (lo:=h00.lo) (QZ:=ziR P z (bodyPost P f (fun e w'=>e=.returned (.bool true)/\Below w.heap.size w w'))) (st:=st) (Inv:=Inv) hY hm hB2 fun m j E hI=>by
  obtain⟨g,fa,nx,hg,h1,h2,h3⟩:=round m j E hI
  exact⟨fa,nx,zOut (zGo Y f.ntmps dr z) g (koB rs),g,hg,h1,h2,h3,zdN hY hm hg z _ _ hB1 (kB E)⟩
 refine zgo hY hm h0 (w0:=w) (lo:=h00.lo) z fr h00 fa (koB rs) _ hB1 hk hfa (kB E) ?_ ρ w _ ⟨rfl,rfl,rfl,rfl,Nat.le_refl _,fun _ _=>rfl,zcs⟩ hs hf (by simp[γL_length];omega) rfl
 intro fr' h' fa' hk' hfa' ρ' w' a' d' s' f' n' dd'
 obtain⟨hne,hall⟩:=zmk hk'
 obtain⟨j',σ,m',E',hmem,hlt,hI',ht,hrow⟩:=hl hne
 obtain⟨d2,s2,f2⟩:=zmo (hall _ hmem) ht hrow d' s' f'
 exact wp_loop_rounds (m'+1) (L m' j' E' hI' ρ' w' a' d2 s2 f2 n' dd')
end Go.Ev
end
