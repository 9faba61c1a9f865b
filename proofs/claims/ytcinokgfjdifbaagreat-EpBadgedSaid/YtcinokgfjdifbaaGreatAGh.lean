import Derived.Test.YtcinokgfjdifbaaGreatAEf
set_option linter.unusedSimpArgs false
set_option linter.unusedVariables false
set_option maxRecDepth 100000
noncomputable section
namespace Go.Ev.X
open Go Go.Ev Go.Proofs
variable {E:Env} {f f' fm fm' fp fr:Nat->Int} {p p2 r r2:List Sh} {ps:List PEnt} {fs:List (SB × Bool)}
structure RowA (r:Row) (D:Nat->Act):Prop where
 esz:r.esz=6
 c:∀ i,i<r.len->r.cs[r.off+i*6+0]? = some (.int .i64 (D i).d)/\r.cs[r.off+i*6+1]? = some (.int .i64 (D i).a)/\r.cs[r.off+i*6+2]? = some (.int .i64 (D i).e)/\r.cs[r.off+i*6+3]? = some (.int .i64 (D i).b)/\r.cs[r.off+i*6+4]? = some (.bool (D i).r)/\r.cs[r.off+i*6+5]? = some (.int .i64 (D i).k)/\(D i).Ok
theorem RowA.idx {r:Row} {D:Nat->Act} (h:RowA r D) (k:Nat):RowA { r with idx:=k } D:=⟨h.esz,h.c⟩
def row6 (h:H):Bool:=hc h (fun _ _ t=>zht (fun _ o=>match o with
 | .row q z N I l=>Nat.beq q 0 && Nat.beq z 6 && SE.beq I (.v 2) && jG l l6
 | _=>true) (fun p=>p) t)
theorem row6_ok {h:H} (hr:row6 h=true) (h2:E.i 2=(E.s 0).idx) (hl:(E.s 0).idx<(E.s 0).len) {D:Nat->Act} (hD:RowA (E.s 0) D) (b:BaV E.i (D (E.s 0).idx)):∀ p o,h.t.get p=some o->znm E o:=by
 intro p o hp
 unfold row6 at hr
 rw[zbA]at hr
 have:=zdp _ _ p o hr hp
 cases o with
 | row q z N I l=>
  simp only[Bool.and_eq_true,Nat.beq_eq]at this
  obtain⟨⟨⟨rfl,rfl⟩,hI⟩,hl'⟩:=this
  have hI:=SE.beq_eq hI
  have hl':=jX hl'
  subst hI;subst hl'
  obtain⟨c0,c1,c2,c3,c4,c5,_⟩:=hD.c _ hl
  intro _
  refine⟨h2,hl,rfl,fun ρ i hi=>?_⟩
  have:i=0\/i=1\/i=2\/i=3\/i=4\/i=5:=by
   have:i<6:=hi
   omega
  rcases this with rfl | rfl | rfl | rfl | rfl | rfl
  ·rw[c0,<- b.d];rfl
  ·rw[c1,<- b.a];rfl
  ·rw[c2,<- b.e];rfl
  ·rw[c3,<- b.b];rfl
  ·rw[c4];exact congrArg some (vsb (E:=E) (ρ:=ρ) (sbq b.r)).symm
  ·rw[c5,<- b.k];rfl
 | _=>trivial
theorem hA_row:row6 (hA 1)=true/\rowU (hA 0)=true:=by decide +kernel
theorem zmQ {c:MC} {b:List Sh}:∀ (a:List Sh) (i:Nat),zaW PP c E i (zgj i a)->zaW PP c E (i+a.length) (zgj (i+a.length) b)->zaW PP c E i (zgj i (a ++ b))
 | [],i,_,h=>h
 | s::r,i,h,h2=>⟨h.1,zmQ r (i+1) h.2 (by
  rw[show i+1+r.length=i+(s::r).length from by simp only[List.length_cons];omega];exact h2)⟩
theorem zpz {c:MC} {vs:Nat->Int} {a b:List Sh} {f g f':Nat->Int} (h1:Chn c vs a f g) (h2:Chn c vs b g f') (i0:Nat):∃ (ks:Nat->Nat) (rows:Nat->Nat->Int),rows i0=f/\rows (i0+a.length)=g/\rows (i0+(a ++ b).length)=f' /\
  ∀ E:Env,AgV E vs->(∀ j,i0<=j->j<i0+(a ++ b).length->E.i (9000+j)=(ks j:Nat))->(∀ j,i0<=j->j<=i0+(a ++ b).length->yo (E.s j).cs c.N (rows j))->zaW PP c E i0 (zgj i0 (a ++ b)):=by
 obtain⟨K,h1⟩:=h1
 obtain⟨K',h2⟩:=h2
 obtain⟨k1,r1,a0,a1,hA⟩:=zdY h1 i0
 obtain⟨k2,r2,b0,b1,hB⟩:=zdY h2 (i0+a.length)
 have hl:(a ++ b).length=a.length+b.length:=List.length_append
 have hm:∀ j,i0<=j->j<=i0+a.length->(if j<i0+a.length then r1 j else r2 j)=r1 j:=fun j h1 h2=>by
  by_cases h:j<i0+a.length
  ·rw[if_pos h]
  ·rw[if_neg h,show j=i0+a.length from by omega,a1,b0]
 refine⟨fun j=>if j<i0+a.length then k1 j else k2 j,fun j=>if j<i0+a.length then r1 j else r2 j,(hm _ (by omega) (by omega)).trans a0,(hm _ (by omega) (by omega)).trans a1,?_,fun E hE hk hr=>?_⟩
 ·show (if i0+(a ++ b).length<i0+a.length then _ else r2 (i0+(a ++ b).length))=f'
  rw[if_neg (by omega),show i0+(a ++ b).length=i0+a.length+b.length from by omega];exact b1
 ·refine zmQ a i0 (hA E hE (fun j h1 h2=>?_) (fun j h1 h2=>?_)).1 (hB E hE (fun j h1 h2=>?_) (fun j h1 h2=>?_)).1
  ·rw[hk j h1 (by omega)]
   show ((if j<i0+a.length then k1 j else k2 j:Nat):Int)=_
   rw[if_pos h2]
  ·have:=hr j h1 (by omega)
   simp only[hm j h1 h2]at this;exact this
  ·rw[hk j (by omega) (by omega)]
   show ((if j<i0+a.length then k1 j else k2 j:Nat):Int)=_
   rw[if_neg (by omega)]
  ·have:=hr j (by omega) (by omega)
   simp only[if_neg (show ¬ j<i0+a.length by omega)]at this;exact this
structure LiveC (p p2 r r2:List Sh) (ps:List PEnt) (fs:List (SB × Bool)) (fm fm' fp fr:Nat->Int) (E:Env):Prop where
 ep:zaW PP cP E 100 (zgj 100 (p ++ p2))
 er:zaW PP cR E 200 (zgj 200 (r ++ r2))
 ps:PsOk PP E ps
 fs:j8 E fs
 wm:yo (E.s (100+p.length)).cs 8192 fm
 wm':yo (E.s (200+r.length)).cs 8192 fm'
 wp:yo (E.s (100+(p ++ p2).length)).cs 8192 fp
 wr:yo (E.s (200+(r ++ r2).length)).cs 8192 fr
def CaseC (f f2 base:Nat->Int) (p p2 r r2:List Sh) (ps:List PEnt) (fs:List (SB × Bool)) (fm fm' fp fr:Nat->Int):Prop:=
 ∃ vs:Nat->Int,(∀ i,i<300->vs i=base i)/\Chn cP vs p f fm/\Chn cP vs p2 fm fp/\Chn cR vs r f2 fm'/\Chn cR vs r2 fm' fr/\∀ E,AgV E vs->PsOk PP E ps/\j8 E fs
structure SgK (σ:Sg) (keep:List Nat) (s2:SE) (q q':Nat):Prop where
 g1:σ 1=some (.v 1)
 g2:σ 2=some s2
 k:∀ i∈keep,σ i=some (.v i)
 gp:σ 100100=some (.lit (.ofNat q))
 gr:σ 100200=some (.lit (.ofNat q'))
 cut:∀ i,13<=i->i≠100100->i≠100200->σ i=none
def zaN (σ:Sg) (E:Env) (g:Nat->Int) (i:Nat):Int:=match σ i with
 | some s=>s.den E
 | none=>g i
theorem zo5 (σ:Sg) (E:Env) (x:Int) (vs:Nat->Int) (rows:Nat->Row) (q:Nat):(nxA σ E x vs rows).s q=nxS σ E x rows q:=rfl
theorem nxA_i (σ:Sg) (E:Env) (x:Int) (vs:Nat->Int) (rows:Nat->Row) (i:Nat):(nxA σ E x vs rows).i i=zaN σ E vs i:=rfl
theorem env_ex {σ:Sg} {keep:List Nat} {s2:SE} {q q':Nat} (hσ:SgK σ keep s2 q q') {g:Nat->Int} {f2:Nat->Int} (hc:CaseC f f2 (zaN σ E g) p p2 r r2 ps fs fm fm' fp fr) (hp:(p ++ p2).length<90) (hr:(r ++ r2).length<90) (hq:yo (E.s q).cs 8192 f) (hq':yo (E.s q').cs 8192 f2) (x:Int) :
  ∃ E',TrE σ E E'/\(∀ i,i<300->E'.i i=zaN σ E g i)/\E'.s 0={ E.s 0 with idx:=x.toNat }/\LiveC p p2 r r2 ps fs fm fm' fp fr E':=by
 obtain⟨vs,v0,cp,cp2,cr,cr2,hE⟩:=hc
 obtain⟨kp,rp,p0,pm,p1,hP⟩:=zpz cp cp2 100
 obtain⟨kr,rr,r0,rm,r1,hR⟩:=zpz cr cr2 200
 have lp:p.length<=(p ++ p2).length:=by rw[List.length_append];omega
 have lr:r.length<=(r ++ r2).length:=by rw[List.length_append];omega
 obtain⟨vl,hvl⟩:∃ vl:Nat->Int,vl=fun i=>if i<9000 then vs i else if i<9200 then (kp (i - 9000):Nat) else (kr (i - 9000):Nat):=⟨_,rfl⟩
 obtain⟨rows,hrows⟩:∃ rows:Nat->Row,rows=fun q=>if q<200 then zej 8192 (rp q) else zej 8192 (rr q):=⟨_,rfl⟩
 have t:=nxA_tr σ E x vl rows
 have agree:∀ i,i<9000->(nxA σ E x vl rows).i i=vs i:=fun i hi=>by
  rw[nxA_i]
  cases h:σ i with
  | none=>
   have:zaN σ E vl i=vl i:=by unfold zaN;rw[h]
   rw[this,hvl]
   exact if_pos hi
  | some s=>
   have hi13:i<13:=by
    by_cases h1:13<=i
    ·rw[hσ.cut i h1 (by omega) (by omega)]at h;cases h
    ·omega
   have e1:zaN σ E vl i=s.den E:=by unfold zaN;rw[h]
   have e2:zaN σ E g i=s.den E:=by unfold zaN;rw[h]
   rw[e1,v0 i (by omega),e2]
 have ag:AgV (nxA σ E x vl rows) vs:=fun i h1 _=>agree i h1
 have hi9:∀ i,9000<=i->i<100000->(nxA σ E x vl rows).i i=vl i:=fun i h1 h2=>by
  rw[nxA_i];unfold zaN;rw[hσ.cut i (by omega) (by omega) (by omega)]
 have hs:∀ q,50<=q->q<300->q≠100->q≠200->(nxA σ E x vl rows).s q=rows q:=fun q h1 h2 h3 h4=>by
  rw[zo5];unfold nxS
  rw[if_neg (by omega),hσ.cut (100000+q) (by omega) (by omega) (by omega)]
 have s100:(nxA σ E x vl rows).s 100=E.s q:=by
  rw[zo5];unfold nxS
  rw[if_neg (by omega),show 100000+100=100100 from rfl,hσ.gp]
 have s200:(nxA σ E x vl rows).s 200=E.s q':=by
  rw[zo5];unfold nxS
  rw[if_neg (by omega),show 100000+200=100200 from rfl,hσ.gr]
 have wP:∀ j,100<=j->j<200->yo ((nxA σ E x vl rows).s j).cs 8192 (rp j):=fun j h1 h2=>by
  by_cases e:j=100
  ·subst e;rw[s100,p0];exact hq
  ·rw[hs j (by omega) (by omega) e (by omega),hrows]
   show yo (if j<200 then zej 8192 (rp j) else zej 8192 (rr j)).cs 8192 (rp j)
   rw[if_pos (by omega)];exact jU _ _
 have wR:∀ j,200<=j->j<300->yo ((nxA σ E x vl rows).s j).cs 8192 (rr j):=fun j h1 h2=>by
  by_cases e:j=200
  ·subst e;rw[s200,r0];exact hq'
  ·rw[hs j (by omega) (by omega) (by omega) e,hrows]
   show yo (if j<200 then zej 8192 (rp j) else zej 8192 (rr j)).cs 8192 (rr j)
   rw[if_neg (by omega)];exact jU _ _
 have g1:=hP _ ag (fun j h1 h2=>by
  rw[hi9 _ (by omega) (by omega),hvl]
  show (if 9000+j<9000 then vs (9000+j) else if 9000+j<9200 then ((kp (9000+j - 9000):Nat):Int) else _)=_
  rw[if_neg (by omega),if_pos (by omega),show 9000+j - 9000=j from by omega]) (fun j h1 h2=>wP j h1 (by omega))
 have g2:=hR _ ag (fun j h1 h2=>by
  rw[hi9 _ (by omega) (by omega),hvl]
  show (if 9000+j<9000 then vs (9000+j) else if 9000+j<9200 then ((kp (9000+j - 9000):Nat):Int) else ((kr (9000+j - 9000):Nat):Int))=_
  rw[if_neg (by omega),if_neg (by omega),show 9000+j - 9000=j from by omega]) (fun j h1 h2=>wR j h1 (by omega))
 obtain⟨g3,g4⟩:=hE _ ag
 refine⟨_,t,fun i hi=>(agree i (by omega)).trans (v0 i hi),?_,⟨g1,g2,g3,g4,?_,?_,?_,?_⟩⟩
 ·rw[zo5];unfold nxS;rw[if_pos (by omega)]
 ·have:=wP (100+p.length) (by omega) (by omega)
  rw[pm]at this;exact this
 ·have:=wR (200+r.length) (by omega) (by omega)
  rw[rm]at this;exact this
 ·have:=wP (100+(p ++ p2).length) (by omega) (by omega)
  rw[p1]at this;exact this
 ·have:=wR (200+(r ++ r2).length) (by omega) (by omega)
  rw[r1]at this;exact this
structure LawA where
 F:Nat
 B:Nat
 keep:List Nat
 M:Nat
 tP:Nat->List Sh
 tR:Nat->List Sh
 tF:Nat->List (SB × Bool)
 D:Nat->Bool
 eP:Nat->List Sh
 eS:Nat->List PEnt
 eF:Nat->List (SB × Bool)
 Z:Nat->(Nat->Int)->Prop
def LawA.ex (l:LawA):List (Nat × SE):=l.keep.map fun i=>(i,.v i)
def LawA.lp (l:LawA) (c n:Nat):List Sh:=shP c ++ l.tP n
def LawA.lr (l:LawA) (c n:Nat):List Sh:=shR c ++ l.tR n
def LawA.lf (l:LawA) (c n:Nat):List (SB × Bool):=fsA c ++ l.tF n
def LawA.ro (l:LawA) (c n:Nat):List (SB × Bool):=(.cmp .lss (.v 2) (.v 1),true)::(.cmp .lss (.v 2) (.lit (.ofNat l.B)),true)::l.lf c n
def LawA.fo (l:LawA) (b:Bool) (d:Nat):List (SB × Bool):=(bif b then [(.cmp .lss (.v 2) (.v 1),true),(.cmp .lss (.v 2) (.lit (.ofNat l.B)),false)] else [(.cmp .lss (.v 2) (.v 1),false)]) ++ l.eF d
variable {l:LawA} {kv:Nat->Int}
def TailOk (l:LawA):Prop:=∀ (f:Nat->Int) (x:Act),WOk f->∃ (n:Nat) (tl:Nat->Int),n<l.M/\∀ vs,(∀ i,640<=i->vs i=tl i)->AcV vs x->Chn cP vs (l.tP n) f f/\Chn cR vs (l.tR n) f f/\∀ E,AgV E vs->j8 E (l.tF n)
def EndOk (l:LawA) (kv:Nat->Int):Prop:=∀ f base,WOk f->(∀ i∈l.keep,base i=kv i)->∃ d fp,l.D d=true/\l.Z d fp/\CaseC f f base (l.eP d) [] [] [] (l.eS d) (l.eF d) fp f fp f
structure LawOk (l:LawA) (kv:Nat->Int):Prop where
 b:l.B<1000
 keep:∀ i∈l.keep,i=3\/i=4
 lp:∀ n,n<l.M->(l.tP n).length<=70/\(l.tR n).length<=70
 le:∀ d,l.D d=true->(l.eP d).length<=70
 t:TailOk l
 e:EndOk l kv
def InvA (l:LawA) (kv:Nat->Int) (m j:Nat) (E:Env):Prop:=E.i 1=(E.s 0).len/\(∃ D,RowA (E.s 0) D)/\0<=E.i 2/\(m:Int)+E.i 2=l.B/\(∀ i∈l.keep,E.i i=kv i) /\
 ((j=1/\E.i 2<E.i 1/\E.i 2<l.B/\∃ c n f',c<15/\n<l.M/\WOk f'/\LiveC (shP c) (l.tP n) (shR c) (l.tR n) psA (l.lf c n) f' f' f' f' E)\/(j=0/\¬ (E.i 2<E.i 1/\E.i 2<l.B)/\∃ d fp fr,l.D d=true/\l.Z d fp/\LiveC (l.eP d) [] [] [] (l.eS d) (l.eF d) fp fr fp fr E))
theorem sh_len:zW (fun c=>Nat.ble (shP c).length 5 && Nat.ble (shR c).length 5) (rng 15)=true:=by decide +kernel
theorem lead_a (hl:LawOk l kv) {st:List (Ky × V)} {σ:Sg} {s2:SE} {q q' m:Nat} {x:Int} (hσ:SgK σ l.keep s2 q q') (hf:WOk f) (hq:yo (E.s q).cs 8192 f) (hq':yo (E.s q').cs 8192 f) (hx:s2.den E=x) (hx0:0<=x) (hxB:x<=l.B) (hk:∀ i∈l.keep,E.i i=kv i) (hlen:E.i 1=(E.s 0).len) {D:Nat->Act} (hD:RowA (E.s 0) D) (hm:l.B - x<m) :
  zpM (stA st) (InvA l kv) E (nxA' σ) m:=by
 intro _
 have b1:∀ g,zaN σ E g 1=E.i 1:=fun g=>by unfold zaN;rw[hσ.g1];rfl
 have b2':∀ g,zaN σ E g 2=x:=fun g=>by unfold zaN;rw[hσ.g2];exact hx
 have bk:∀ g,∀ i∈l.keep,zaN σ E g i=kv i:=fun g i hi=>by unfold zaN;rw[hσ.k i hi];exact hk i hi
 have kb:∀ i∈l.keep,i<300:=fun i hi=>by rcases hl.keep i hi with rfl | rfl <;> omega
 by_cases hg:x<(E.s 0).len/\x<l.B
 ·obtain⟨gA,hgA⟩:∃ gA:Nat->Int,gA=fun i=>if i=13 then (D x.toNat).d else if i=14 then (D x.toNat).a else if i=15 then (D x.toNat).e else if i=16 then (D x.toNat).b else if i=17 then b2 (D x.toNat).r else (D x.toNat).k:=⟨_,rfl⟩
  have bg:∀ i,13<=i->i<300->zaN σ E gA i=gA i:=fun i h1 h2=>by unfold zaN;rw[hσ.cut i h1 (by omega) (by omega)]
  have hb:BaV (zaN σ E gA) (D x.toNat):=by
   refine⟨?_,?_,?_,?_,?_,?_⟩ <;> rw[bg _ (by omega) (by omega),hgA] <;> rfl
  obtain⟨cs,f',hcs,hf',hact⟩:=act_ex hf hb
  obtain⟨n,tl,hn,htl⟩:=hl.t f' (D x.toNat) hf'
  obtain⟨vs,v0,v6,hac,cp,cr,hfs⟩:=hact tl
  obtain⟨tp,tr,tf⟩:=htl vs v6 hac
  have hok:=(hD.c x.toNat (by omega)).2.2.2.2.2.2
  have hcase:CaseC f f (zaN σ E gA) (shP cs) (l.tP n) (shR cs) (l.tR n) psA (l.lf cs n) f' f' f' f':=⟨vs,v0,cp,tp,cr,tr,fun E hE=>⟨ps_ok hok hac hE,jS (hfs E hE) (tf E hE)⟩⟩
  have hsl:=rng_ok sh_len cs hcs
  simp only[Bool.and_eq_true,Nat.ble_eq]at hsl
  have hll:=hl.lp n hn
  obtain⟨E',t,ei,es0,hlive⟩:=env_ex hσ hcase (by rw[List.length_append];omega) (by rw[List.length_append];omega) hq hq' x
  have e1:E'.i 1=E.i 1:=(ei 1 (by omega)).trans (b1 _)
  have e2:E'.i 2=x:=(ei 2 (by omega)).trans (b2' _)
  have hD':RowA (E'.s 0) D:=by rw[es0];exact hD.idx _
  have hl':(E'.s 0).len=(E.s 0).len:=by rw[es0]
  have hi':(E'.s 0).idx=x.toNat:=by rw[es0]
  refine⟨1,σ,(l.B - x).toNat,E',by simp[nxA'],by omega,⟨by rw[e1,hl'];exact hlen,⟨D,hD'⟩,by omega,by omega,fun i hi=>(ei i (kb i hi)).trans (bk _ i hi),.inl ⟨rfl,by omega,by omega,cs,n,f',hcs,hn,hf',hlive⟩⟩,t,row6_ok hA_row.1 (by rw[e2,hi'];omega) (by rw[hi',hl'];omega) hD' ?_⟩
  rw[hi']
  exact⟨(ei 13 (by omega)).trans hb.d,(ei 14 (by omega)).trans hb.a,(ei 15 (by omega)).trans hb.e,(ei 16 (by omega)).trans hb.b,(ei 17 (by omega)).trans hb.r,(ei 18 (by omega)).trans hb.k⟩
 ·obtain⟨d,fp,hd,hz,hcase⟩:=hl.e f (zaN σ E fun _=>0) hf (bk _)
  obtain⟨E',t,ei,es0,hlive⟩:=env_ex hσ hcase (by have:=hl.le d hd;rw[List.append_nil];omega) (by show 0<90;omega) hq hq' x
  have e1:E'.i 1=E.i 1:=(ei 1 (by omega)).trans (b1 _)
  have e2:E'.i 2=x:=(ei 2 (by omega)).trans (b2' _)
  have hD':RowA (E'.s 0) D:=by rw[es0];exact hD.idx _
  have hl':(E'.s 0).len=(E.s 0).len:=by rw[es0]
  exact⟨0,σ,(l.B - x).toNat,E',by simp[nxA'],by omega,⟨by rw[e1,hl'];exact hlen,⟨D,hD'⟩,by omega,by omega,fun i hi=>(ei i (kb i hi)).trans (bk _ i hi),.inr ⟨rfl,fun h=>hg (by rw[e1,e2]at h;omega),d,fp,f,hd,hz,hlive⟩⟩,t,rowU_ok hA_row.2⟩
theorem sgL_cut {L:List (Nat × SE)} {i:Nat} (h:∀ p∈L,i≠p.1):sgL L i=none:=by
 induction L with
 | nil=>rfl
 | cons x r ih=>
  show bc (Nat.beq i x.1) (some x.2) (sgL r i)=_
  rw[show Nat.beq i x.1=false by rw[Bool.eq_false_iff];simpa using h x (by simp)]
  exact ih fun p hp=>h p (by simp[hp])
theorem sgL_app {a b:List (Nat × SE)} {i:Nat} (h:∀ p∈a,i≠p.1):sgL (a ++ b) i=sgL b i:=by
 induction a with
 | nil=>rfl
 | cons x r ih=>
  show bc (Nat.beq i x.1) (some x.2) (sgL (r ++ b) i)=_
  rw[show Nat.beq i x.1=false by rw[Bool.eq_false_iff];simpa using h x (by simp)]
  exact ih fun p hp=>h p (by simp[hp])
theorem zrV {L:List Nat}:∀ i∈L,sgL (L.map fun i=>(i,.v i)) i=some (.v i):=by
 induction L with
 | nil=>intro i h;cases h
 | cons a r ih=>
  intro i h
  show bc (Nat.beq i a) (some (.v a)) (sgL (r.map fun i=>(i,.v i)) i)=_
  by_cases e:i=a
  ·subst e;rw[show Nat.beq i i=true by simp];rfl
  ·rw[show Nat.beq i a=false by rw[Bool.eq_false_iff];simpa using e]
   exact ih i (by simpa [e] using h)
theorem sgK_of {A:List (Nat × SE)} {s2:SE} {q q':Nat} (hk:∀ i∈l.keep,i=3\/i=4) {a b:SE} (hA:A=[(1,.v 1),(2,s2),(5,a),(6,b),(100100,.lit (.ofNat q)),(100200,.lit (.ofNat q'))]):SgK (sgL (A ++ l.ex)) l.keep s2 q q':=by
 subst hA
 refine⟨rfl,rfl,fun i hi=>?_,rfl,rfl,fun i h1 h2 h3=>?_⟩
 ·rw[sgL_app]
  ·exact zrV i hi
  ·intro p hp
   have:=hk i hi
   simp only[List.mem_cons,List.not_mem_nil,or_false]at hp
   rcases hp with rfl | rfl | rfl | rfl | rfl | rfl <;> (show i≠_;omega)
 ·refine sgL_cut fun p hp=>?_
  rcases List.mem_append.1 hp with hp | hp
  ·simp only[List.mem_cons,List.not_mem_nil,or_false]at hp
   rcases hp with rfl | rfl | rfl | rfl | rfl | rfl
   ·show i≠1;omega
   ·show i≠2;omega
   ·show i≠5;omega
   ·show i≠6;omega
   ·exact h2
   ·exact h3
  ·obtain⟨j,hj,rfl⟩:=List.mem_map.1 hp
   have:=hk j hj
   show i≠j
   omega
def rhoA (r:Row):Rho:=fun _=>⟨r.b,0⟩
theorem hIn_sat {W:World} (hW:W.heap[(E.s 0).b]? = some (.cells (E.s 0).cs (E.s 0).t (E.s 0).fz)) (he:(E.s 0).esz=6) (hl:E.i 1=(E.s 0).len):Sat E (rhoA (E.s 0)) hIn W:=by
 have get:∀ p o,hIn.t.get p=some o->p=.h/\o=.row 0 6 (.v 1) (.v 2) []:=by
  intro p o hp
  have hp:((PT.e:PT O).set .h (.row 0 6 (.v 1) (.v 2) [])).get p=some o:=hp
  by_cases e:p=.h
  ·subst e
   rw[PT.get_set_same]at hp
   exact⟨rfl,(Option.some.inj hp).symm⟩
  ·rw[PT.get_set_other _ _ _ _ (fun h=>e h.symm),PT.get_e]at hp
   cases hp
 refine⟨fun p o hp=>?_,fun p q o o' hp hq _ _ _=>?_,fun p o hp=>?_⟩
 ·obtain⟨rfl,rfl⟩:=get p o hp
  exact⟨rfl,hW,he,hl,fun h=>absurd rfl h⟩
 ·rw[(get p o hp).1,(get q o' hq).1]
 ·obtain⟨rfl,rfl⟩:=get p o hp
  exact⟨by decide,trivial⟩
theorem inA_ok (h1:yo (E.s 100).cs 8192 f0) (h2:yo (E.s 200).cs 8192 f0):zk E PP inA:=
 zni (zni (msR_ok rfl gbo gbt FaOk.nil (zdH (zdv E)) (zjA (zdH (zdv E)))) rfl (fun ρ L hp h=>zpH abt_u h1 ρ L hp h) (zmh _ _ _ _)) rfl (fun ρ L hp h=>zpH abt_u h2 ρ L hp h) (zmh _ _ _ _)
def argK (l:LawA):List V:=.fs q1 0::l.keep.map fun i=>.si .i64 (.v i)
theorem γK (E:Env) (ρ:Rho):∀ L:List Nat,γL E ρ (L.map fun i=>.si .i64 (.v i))=L.map fun i=>Value.int .i64 (E.i i)
 | []=>rfl
 | a::r=>by
  show V.γ E ρ (.si .i64 (.v a))::γL E ρ (r.map fun i=>.si .i64 (.v i))=_
  rw[γK E ρ r];rfl
theorem bdK:∀ L:List Nat,bdL 2 (L.map fun i=>V.si .i64 (.v i))
 | []=>trivial
 | a::r=>⟨trivial,bdK r⟩
theorem zu6 (hl:LawOk l kv) {f:Func} {q:CutX} {dr:Nat->Option Dr} (hfn:PP.funcs[l.F]? = some f) (hc:cutX (zX PP) dr f=some q) (hw:zf8 dr f=true) {st:List (Ky × V)} {gT:Nat->Nat->Cx} {gE:Nat->Cx}
  (hT:∀ c n f' E,c<15->n<l.M->LiveC (shP c) (l.tP n) (shR c) (l.tR n) psA (l.lf c n) f' f' f' f' E->CxOk E PP (zX PP) (gT c n)) (hE:∀ d fp fr E,l.D d=true->LiveC (l.eP d) [] [] [] (l.eS d) (l.eF d) fp fr fp fr E->CxOk E PP (zX PP) (gE d))
  (go:∀ c n,c<15->n<l.M->runJ (stA st) q.x q.z (koB q.rs) ⟨zaM (gT c n) 20,l.F,20000⟩ 1 ⟨l.ro c n,[]⟩ (nxA' (sgA l.ex (l.lp c n) (l.lr c n)))=0)
  (out:∀ b d,l.D d=true->runJ (stA st) q.x q.z (koB q.rs) ⟨zaM (gE d) 20,l.F,20000⟩ 0 ⟨l.fo b d,[]⟩ []=0)
  (hin:zfI (argK l) (fun fr'=>zIn q.z ⟨inA,l.F,20000⟩ fr' hIn ⟨[],[]⟩ (fun fr' h _=>zhx (stA st) (nxA' (sgA0 l.ex)) fr' h) (koB q.rs))=0)
  {r:Row} {D:Nat->Act} (hD:RowA r D) {W:World} (hW:W.heap[r.b]? = some (.cells r.cs r.t r.fz)) :
  Calls PP l.F (Value.slice (some ⟨r.b,r.off,none⟩) r.len r.cap::l.keep.map fun i=>Value.int .i64 (kv i)).toArray W fun e w'=>e=.returned (.bool true)/\RowKit.Below W.heap.size W w':=by
 obtain⟨E,hEd⟩:∃ E:Env,E=⟨fun i=>if i=1 then r.len else kv i,fun _=>false,fun q=>if q=0 then r else zej 8192 f0⟩:=⟨_,rfl⟩
 have s0:E.s 0=r:=by rw[hEd];rfl
 have i1:E.i 1=r.len:=by rw[hEd];rfl
 have ik:∀ i∈l.keep,E.i i=kv i:=fun i hi=>by
  have:=hl.keep i hi
  rw[hEd]
  exact if_neg (by omega)
 have p0:yo (E.s 100).cs 8192 f0:=by rw[hEd];exact jU _ _
 have r0:yo (E.s 200).cs 8192 f0:=by rw[hEd];exact jU _ _
 have hB:=hl.b
 have:=zuz zaX zkB hfn hc hw (st:=stA st) (Inv:=InvA l kv) (fun m j E hI=>?_) (E:=E) (g0:=⟨inA,l.F,20000⟩) (inA_ok p0 r0) FaOk.nil (l.B+1)
  (lead_a hl (st:=st) (q:=100) (q':=200) (s2:=.lit 0) (x:=0) (sgK_of (l:=l) hl.keep rfl) W0 p0 r0 rfl (Int.le_refl 0) (by omega) ik (by rw[s0];exact i1) (by rw[s0];exact hD) (by omega)) hin (hIn_sat (by rw[s0];exact hW) (by rw[s0];exact hD.esz) (by rw[s0];exact i1)) ⟨show (1:Nat)<2 by decide,bdK _⟩ (fun p o hp _ hlo=>?_)
 ·have ha:(γL E (rhoA (E.s 0)) (argK l)).toArray=(Value.slice (some ⟨r.b,r.off,none⟩) r.len r.cap::l.keep.map fun i=>Value.int .i64 (kv i)).toArray:=by
   congr 1
   show V.γ E (rhoA (E.s 0)) (.fs q1 0)::γL E (rhoA (E.s 0)) (l.keep.map fun i=>.si .i64 (.v i))=_
   rw[γK,List.map_congr_left (fun i hi=>congrArg (Value.int .i64) (ik i hi))]
   simp only[V.γ,s0]
  rw[ha]at this
  exact this
 ·obtain⟨hlen,⟨D,hD⟩,h20,hm,hk,hcase⟩:=hI
  rcases hcase with ⟨rfl,h1,h2,c,n,f',hcs,hn,hf',hlive⟩ | ⟨rfl,h1,d,fp,fr,hd,hz,hlive⟩
  ·refine⟨⟨zaM (gT c n) 20,l.F,20000⟩,⟨l.ro c n,[]⟩,_,jq (hT c n f' E hcs hn hlive) 20,zm (show j8 E (l.ro c n) from ⟨f_lt h1,f_lt (show E.i 2<((l.B:Nat):Int) from h2),hlive.fs⟩) trivial,go c n hcs hn,?_⟩
   refine lead_a hl (st:=st) (q:=100+(l.lp c n).length) (q':=200+(l.lr c n).length) (s2:=.op .add .i64 (.v 2) (.lit 1)) (x:=E.i 2+1) (sgK_of (l:=l) hl.keep rfl) hf' hlive.wp hlive.wr ?_ (by omega) (by omega) hk hlen hD (by omega)
   show jN .i64 (E.i 2+1)=_
   rw[z8,IntKind.wrap_i64];omega
  ·by_cases h:E.i 2<E.i 1
   ·exact⟨⟨zaM (gE d) 20,l.F,20000⟩,⟨l.fo true d,[]⟩,[],jq (hE d fp fr E hd hlive) 20,zm (show j8 E (l.fo true d) from jS ⟨f_lt h,zjq (show ((l.B:Nat):Int)<=E.i 2 by omega),trivial⟩ hlive.fs) trivial,out true d hd,fun h=>absurd rfl h⟩
   ·exact⟨⟨zaM (gE d) 20,l.F,20000⟩,⟨l.fo false d,[]⟩,[],jq (hE d fp fr E hd hlive) 20,zm (show j8 E (l.fo false d) from jS ⟨zjq (show E.i 1<=E.i 2 by omega),trivial⟩ hlive.fs) trivial,out false d hd,fun h=>absurd rfl h⟩
 ·have hp:((PT.e:PT O).set .h (.row 0 6 (.v 1) (.v 2) [])).get p=some o:=hp
  have hlo:2<=p.toNat:=hlo
  by_cases e:p=.h
  ·subst e
   have:(Ev.P.h:Ev.P).toNat=1:=rfl
   omega
  ·rw[PT.get_set_other _ _ _ _ (fun h=>e h.symm),PT.get_e]at hp
   cases hp
end Go.Ev.X
end
