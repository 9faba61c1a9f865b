import Derived.Test.YtcinokgfjdifbaaGreatAS
import Derived.Test.YtcinokgfjdifbaaGreatMSz
import Derived.Test.YtcinokgfjdifbaaGreatMH3r
import Derived.Test.YtcinokgfjdifbaaGreatE5
set_option linter.unusedSimpArgs false
set_option linter.unusedVariables false
set_option maxRecDepth 100000
noncomputable section
namespace Go.Ev.X
open Go Go.Ev Go.Proofs
variable {E:Env} {f f':Nat->Int} {t e:Nat} {L:Nat->List Nat} {Q:Nat->List Nat} {P:Nat->TV} {c:Nat} {S:Nat->Int} {vs:Nat->Int}
def f0:Nat->Int:=trF abt0
theorem abt_u:zfZ abt0=true:=by decide +kernel
theorem ck_q:zW (fun p=>iEq (f0 (256+p)) 0) (rng 256)=true:=by decide +kernel
theorem ck_b:zW (fun p=>iEq (f0 (8+p)) 0) (rng 4)=true:=by decide +kernel
theorem ck_s:f0 4=0:=by decide +kernel
theorem ck_c:f0 1=0:=by decide +kernel
theorem ck_e:f0 3120=0/\f0 3124=0/\f0 3128=0:=by decide +kernel
theorem ck_t:∀ t∈zjT,(0<=f0 (t+16)/\f0 (t+16)<524288)/\(0<=f0 (t+17)/\f0 (t+17)<18446744073709551616)/\(0<=f0 (t+18)/\f0 (t+18)<268435456)/\(0<=f0 (t+19)/\f0 (t+19)<18446744073709551616)/\f0 (t+16) % 8=0/\f0 (t+16) / 2048 % 8=5 /\
  f0 (t+16) / 16384 % 2=0/\f0 (t+17) % 65536=0/\f0 (t+17) / 65536 % 65536=0:=by decide +kernel
theorem ck_bl:∀ t∈zjT,(za f0 t).bl=0:=by decide +kernel
theorem f0_q {p:Nat} (hp:p<256):f0 (256+p)=0:=by
 have:=rng_ok ck_q p hp
 rw[yL]at this
 exact of_decide_eq_true this
theorem f0_b {p:Nat} (hp:p<4):f0 (8+p)=0:=by
 have:=rng_ok ck_b p hp
 rw[yL]at this
 exact of_decide_eq_true this
def Q0:Nat->List Nat:=fun _=>[]
def P0 (t:Nat):TV:=zd4 (za f0 t)
theorem S0:SS T4 f0 Q0 P0 0:=by
 have ht:∀ t,T4 t->RightAt f0 t/\(za f0 t).st=0/\(za f0 t).sl=5/\(za f0 t).q=false/\(za f0 t).pv=0/\(za f0 t).nx=0:=fun t ht=>by
  obtain⟨a,b,c,d,e,f,g,h,i⟩:=ck_t t (zdL ht)
  exact⟨⟨a,b,c,d,by omega,by omega⟩,e,f,decide_eq_false (by omega),h,i⟩
 have hd0:(0:Int)=((0:Nat):Int)+((0:Nat):Int)*65536:=by decide
 refine⟨⟨fun t h=>(ht t h).1,fun p t _ h=>(by cases h),fun t h hq=>?_,fun t h _=>(ht t h).2.2.2.2,fun _ _=>List.nodup_nil,fun _ _=>trivial,fun p hp=>(f0_q hp).trans hd0,fun g hg=>⟨?_,?_,fun k _=>?_⟩,?_,?_,fun g hg=>?_⟩,fun t _=>rfl,(show f0 1=((0:Nat):Int) by rw[ck_c];rfl),.inl rfl,fun t h=>?_,fun h=>?_⟩
 ·rw[(ht t h).2.2.2.1]at hq;cases hq
 ·rw[f0_b hg];omega
 ·rw[f0_b hg];omega
 ·rw[f0_b hg];simp[Q0]
 ·rw[ck_s];omega
 ·rw[ck_s];omega
 ·rw[ck_s,f0_b hg];simp
 ·have e:(P0 t).st=0:=(ht t h).2.1
  rw[e,(ht t h).2.2.2.1]
  have:=z5.lo t h
  simp;omega
 ·have:=z5.lo 0 h;omega
def WOk (f:Nat->Int):Prop:=∃ Q P c L S,EInv T4 EpA f Q P c L S
theorem W0:WOk f0:=by
 have hfre:∀ u,Fre T4 EpA (fun _=>[]) u ↔ T4 u:=fun u=>⟨fun h=>h.1,fun h=>⟨h,by rintro ⟨e,_,hm⟩;cases hm⟩⟩
 refine⟨Q0,P0,0,fun _=>[],fun _=>1,ss_iff S0 hfre,fun e t _ hm=>(by cases hm),fun _ _=>.inl rfl,fun _ _=>List.nodup_nil,fun e e' t _ _ hm=>(by cases hm),fun _ _=>trivial,fun e he=>?_,fun t ht=>⟨.inl (ck_t t (zdL ht.1)).2.2.2.2.1,ck_bl t (zdL ht.1)⟩⟩
 rcases he with rfl | rfl | rfl
 ·exact ck_e.1
 ·exact ck_e.2.1
 ·exact ck_e.2.2
def I64 (x:Int):Prop:=-9223372036854775808<=x/\x<=9223372036854775807
theorem pk_run:zW (fun n=>Nat.beq (zdG cx0 0 znZ 31 [.si .i64 (.v 0),.i .i64 (.ofNat n)] ⟨.h,.h,.e⟩ ⟨[(.cmp .lss (.v 0) (.lit 0),false)],[]⟩ (endV (.si .i64 (.op .rem .i64 (.v 0) (.lit (.ofNat n)))))) 0 && Nat.beq (zdG cx0 0 znZ 31 [.si .i64 (.v 0),.i .i64 (.ofNat n)] ⟨.h,.h,.e⟩ ⟨[(.cmp .lss (.v 0) (.lit 0),true)],[]⟩ (endV (.si .i64 (.op .rem .i64 (.op .sub .i64 (.lit 0) (.op .add .i64 (.v 0) (.lit 1))) (.lit (.ofNat n)))))) 0) [3,4,100]=true:=by decide +kernel
theorem zo0 {i j n:Nat} {x:Int} (hn:n∈[3,4,100]) (hi:E.i i=x) (hx:I64 x) (hj:E.i j=jk x n):PEntOk PP E ⟨31,[.si .i64 (.v i),.i .i64 (.ofNat n)],.si .i64 (.v j)⟩:=
 ⟨trivial,Tryz.call31,fun ρ w=>by
  have hr:=zt pk_run n hn
  simp only[Bool.and_eq_true,Nat.beq_eq]at hr
  have:=pick_c (P:=PP) (fun _=>zej 0 fun _=>0) (fun E _=>hC0 E) (fun E _=>zi9) hr.1 hr.2 hx w
  refine(show Calls PP 31 (γL E ρ [.si .i64 (.v i),.i .i64 (.ofNat n)]).toArray w _ from ?_)
  have hargs:(γL E ρ [.si .i64 (.v i),.i .i64 (.ofNat n)]).toArray=#[.int .i64 x,.int .i64 (n:Nat)]:=by
   simp only[γL,V.γ,SE.den,hi];rfl
  rw[hargs]
  refine this.mono ?_
  rintro ex w' ⟨rfl,hb⟩
  refine⟨?_,hb⟩
  simp only[V.γ,SE.den,hj];rfl⟩
structure Act where
 d:Int
 a:Int
 e:Int
 b:Int
 r:Bool
 k:Int
structure Act.Ok (x:Act):Prop where
 d:I64 x.d
 a:I64 x.a
 e:I64 x.e
 b:I64 x.b
 k:I64 x.k
def thA (x:Act):Nat:=1024+64*(jk x.a 4).toNat
def epA (x:Act):Nat:=3120+4*(jk x.e 3).toNat
theorem thA_t (x:Act):T4 (thA x):=by
 have:=zbx (c:=x.a) (n:=4) (by omega)
 unfold thA T4
 omega
theorem epA_e (x:Act):EpA (epA x):=by
 have:=zbx (c:=x.e) (n:=3) (by omega)
 unfold epA EpA
 omega
structure AcV (vs:Nat->Int) (x:Act):Prop where
 d:vs 13=x.d
 a:vs 14=x.a
 e:vs 15=x.e
 b:vs 16=x.b
 r:vs 17=b2 x.r
 k:vs 18=x.k
 t:vs 300=jk x.a 4
 p:vs 302=jk x.e 3
 bd:vs 303=jk x.b 100
 fk:vs 304=jk x.k 4
theorem zbl {x:Act} (h:AcV vs x):∀ E,AgV E vs->∀ ρ,Tv.γ E ρ=.int .i64 (thA x:Nat):=fun E hE ρ=>vsi (by
 have hp:=zbx (c:=x.a) (n:=4) (by omega)
 have e1:SE.den E (.v 300)=jk x.a 4:=(hE 300 (by omega) (by omega)).trans h.t
 have e2:=zhU (a:=.lit 64) (x:=64) rfl e1 (by omega) (by omega)
 have e3:=zfb (a:=.lit 1024) (x:=1024) rfl e2 (by omega) (by omega)
 refine e3.trans ?_
 unfold thA
 omega)
theorem zjH {x:Act} (h:AcV vs x):∀ E,AgV E vs->∀ ρ,Ev'.γ E ρ=.int .i64 (epA x:Nat):=fun E hE ρ=>vsi (by
 have hp:=zbx (c:=x.e) (n:=3) (by omega)
 have e1:SE.den E (.v 302)=jk x.e 3:=(hE 302 (by omega) (by omega)).trans h.p
 have e2:=zhU (a:=.lit 4) (x:=4) rfl e1 (by omega) (by omega)
 have e3:=zfb (a:=.lit 3120) (x:=3120) rfl e2 (by omega) (by omega)
 refine e3.trans ?_
 unfold epA
 omega)
theorem ps_ok {x:Act} (hx:x.Ok) (h:AcV vs x) (hE:AgV E vs):PsOk PP E psA:=
 ⟨zo0 (n:=4) (by simp) ((hE 14 (by omega) (by omega)).trans h.a) hx.a ((hE 300 (by omega) (by omega)).trans h.t),zo0 (n:=3) (by simp) ((hE 15 (by omega) (by omega)).trans h.e) hx.e ((hE 302 (by omega) (by omega)).trans h.p),zo0 (n:=100) (by simp) ((hE 16 (by omega) (by omega)).trans h.b) hx.b ((hE 303 (by omega) (by omega)).trans h.bd),zo0 (n:=4) (by simp) ((hE 18 (by omega) (by omega)).trans h.k) hx.k ((hE 304 (by omega) (by omega)).trans h.fk),trivial⟩
theorem fsX_ok:∀ {m:Nat},(∀ i:Nat,1<=i->i<=m->E.i 13≠(i:Int))->j8 E (fsX m)
 | 0,_=>trivial
 | m+1,h=>⟨yM (by show E.i 13≠((m+1:Nat):Int);exact h (m+1) (by omega) (by omega)),fsX_ok fun i h1 h2=>h i h1 (by omega)⟩
theorem zpp {cs:Nat} {d:Int} (h:E.i 13=d) (h1:doA cs<=5->d=(doA cs:Nat)) (h2:∀ i:Nat,1<=i->i<doA cs->d≠(i:Int)):j8 E (fsDo cs):=by
 refine jS ?_ (fsX_ok fun i a b=>by rw[h];exact h2 i a (by have:Nat.pred (doA cs)=doA cs - 1:=rfl;omega))
 by_cases e:doA cs<=5
 ·rw[show Nat.ble (doA cs) 5=true by rw[Nat.ble_eq];exact e]
  exact⟨zal (by show E.i 13=((doA cs:Nat):Int);rw[h];exact h1 e),trivial⟩
 ·rw[show Nat.ble (doA cs) 5=false by rw[Bool.eq_false_iff,ne_eq,Nat.ble_eq];exact e]
  exact trivial
def vsA (base:Nat->Int) (x:Act) (v5:TV) (r5:Nat->Int) (v6:TV) (r6:Nat->Int) (tl:Nat->Int) (i:Nat):Int:=
 if i<300 then base i else if i=300 then jk x.a 4 else if i=302 then jk x.e 3 else if i=303 then jk x.b 100 else if i=304 then jk x.k 4 else if i<540 then ym v5 r5 (i - 500) else if i<640 then ym v6 r6 (i - 600) else tl i
variable {base:Nat->Int} {x:Act} {v5 v6:TV} {r5 r6 tl:Nat->Int}
structure BaV (base:Nat->Int) (x:Act):Prop where
 d:base 13=x.d
 a:base 14=x.a
 e:base 15=x.e
 b:base 16=x.b
 r:base 17=b2 x.r
 k:base 18=x.k
theorem yp (h:BaV base x):AcV (vsA base x v5 r5 v6 r6 tl) x:=⟨h.d,h.a,h.e,h.b,h.r,h.k,rfl,rfl,rfl,rfl⟩
theorem zeA:TlB (vsA base x v5 r5 v6 r6 tl) 500 v5 r5:=⟨by omega,by omega,fun j hj=>by
 unfold vsA
 rw[if_neg (by omega),if_neg (by omega),if_neg (by omega),if_neg (by omega),if_neg (by omega),if_pos (by omega),show 500+j - 500=j from by omega]⟩
theorem zoI:TlB (vsA base x v5 r5 v6 r6 tl) 600 v6 r6:=⟨by omega,by omega,fun j hj=>by
 unfold vsA
 rw[if_neg (by omega),if_neg (by omega),if_neg (by omega),if_neg (by omega),if_neg (by omega),if_neg (by omega),if_pos (by omega),show 600+j - 600=j from by omega]⟩
theorem ziT {i:Nat} (h:i<300):vsA base x v5 r5 v6 r6 tl i=base i:=if_pos h
theorem ziS {i:Nat} (h:640<=i):vsA base x v5 r5 v6 r6 tl i=tl i:=by
 unfold vsA
 rw[if_neg (by omega),if_neg (by omega),if_neg (by omega),if_neg (by omega),if_neg (by omega),if_neg (by omega),if_neg (by omega)]
def ActC (f:Nat->Int) (x:Act) (base:Nat->Int) (cs:Nat) (f':Nat->Int):Prop:=∀ tl:Nat->Int,∃ vs,(∀ i,i<300->vs i=base i)/\(∀ i,640<=i->vs i=tl i)/\AcV vs x/\Chn cP vs (shP cs) f f'/\Chn cR vs (shR cs) f f'/\∀ E,AgV E vs->j8 E (fsA cs)
end Go.Ev.X
end
set_option linter.unusedSimpArgs false
set_option linter.unusedVariables false
set_option maxRecDepth 100000
noncomputable section
namespace Go.Ev.X
open Go Go.Ev Go.Proofs
variable {E:Env} {f f':Nat->Int} {t e:Nat} {L:Nat->List Nat} {Q:Nat->List Nat} {P:Nat->TV} {c:Nat} {S:Nat->Int} {vs:Nat->Int} {base:Nat->Int} {x:Act}
theorem zcH {F:Nat} {l:List V} {args:List Value} {g:Nat->Int} {mc:MC} {zaf:List Sh} (hm:zJ PP mc F args f (.tuple #[]) g) (ha:∀ E,AgV E vs->∀ ρ,γL E ρ l=args) (h:Chn mc vs zaf g f'):Chn mc vs (cl F l::zaf) f f':=
 zan hm ha (fun E hE ρ=>rfl) h
theorem dI13 (h:AcV vs x) (hE:AgV E vs):E.i 13=x.d:=(hE 13 (by omega) (by omega)).trans h.d
theorem zeU {cs Fp Fr:Nat} {l:List V} {args:List Value} (hb:BaV base x) (e1:shP cs=[cl Fp l]) (e2:shR cs=[cl Fr l]) (hp:zJ PP cP Fp args f (.tuple #[]) f') (hr:zJ PP cR Fr args f (.tuple #[]) f') (ha:∀ vs,AcV vs x->∀ E,AgV E vs->∀ ρ,γL E ρ l=args) (hf:∀ vs,AcV vs x->∀ E,AgV E vs->j8 E (fsA cs)):ActC f x base cs f':=fun tl=>
 ⟨vsA base x (za f (thA x)) (zp f (thA x)) (za f (thA x)) (zp f (thA x)) tl,fun i hi=>ziT hi,fun i hi=>ziS hi,yp hb,by rw[e1];exact zcH hp (ha _ (yp hb)) (z7 _),by rw[e2];exact zcH hr (ha _ (yp hb)) (z7 _),hf _ (yp hb)⟩
theorem zty (h:EInv T4 EpA f Q P c L S) (hb:BaV base x) (hd:x.d=1):∃ cs f',cs<15/\WOk f'/\ActC f x base cs f':=by
 have hT:=thA_t x
 have hep:=epA_e x
 have hrt:=zaq h hT
 have hdo:∀ {vs E} (cs:Nat),AcV vs x->AgV E vs->doA cs=1->j8 E (fsDo cs):=fun cs hv hE e1=>zpp (dI13 hv hE) (fun _=>by rw[e1,hd];rfl) (fun i a b=>by rw[e1]at b;omega)
 by_cases hw:Wt EpA L (thA x)
 ·-- it waits already
  obtain⟨e',he',hm⟩:=hw
  obtain⟨_,_,hct,_,_,hst⟩:=h.w e' _ he' hm
  have hst':(za f (thA x)).st=S e'+1:=by rw[<- hst,<- hct];rfl
  have hS:=h.s e' he'
  refine⟨0,f,by omega,⟨Q,P,c,L,S,h⟩,fun tl=>⟨vsA base x (za f (thA x)) (zp f (thA x)) (za f (thA x)) (zp f (thA x)) tl,fun i hi=>ziT hi,fun i hi=>ziS hi,yp hb,z7 f,zaJ yB hT hrt (zbl (yp hb)) zeA (z7 f),fun E hE=>?_⟩⟩
  have g500:E.i 500=S e'+1:=(z4 zeA hE (j:=0) (by omega)).trans hst'
  exact jS (hdo 0 (yp hb) hE rfl) ⟨j7 (by show E.i 500≠0;omega),j7 (by show E.i 500≠1;omega),trivial⟩
 ·have ht:Fre T4 EpA L (thA x):=⟨hT,hw⟩
  have hst0:=(h.fr _ ht).1
  have hstg:(za f (thA x)).st=(P (thA x)).st:=by rw[<- h.ss.th _ ht];rfl
  obtain⟨g1,hg1⟩:∃ g1,g1=zd9 f (thA x) 0:=⟨_,rfl⟩
  obtain⟨Q1,c1,h1⟩:=stop_E z5 ze8 h ht
  have sp:=zrC h.ss ht
  have sr:=zrB h.ss ht
  rw[<- hg1]at h1 sp sr
  have hP1:(zbw P (thA x) { P (thA x) with st:=0 } (thA x)).st=0:=by rw[jK]
  have hg1st:(za g1 (thA x)).st=0:=by
   have:(za g1 (thA x)).st=(zbw P (thA x) { P (thA x) with st:=0 } (thA x)).st:=by rw[<- h1.ss.th _ ht];rfl
   rw[this];exact hP1
  have hr1:=zaq h1 hT
  obtain⟨s,hs,hrc⟩:∃ s:Nat,(s=1\/s=2)/\x.r=decide (s=2):=by
   cases hxr:x.r with
   | true=>exact⟨2,.inr rfl,rfl⟩
   | false=>exact⟨1,.inl rfl,rfl⟩
  obtain⟨ran,hran⟩:∃ ran:Bool,ran=decide ((P (thA x)).st=1):=⟨_,rfl⟩
  -- the words behind joining,and what the thread says then
  obtain⟨rf,g2,hrf,h2,jp,jr,hr2,hst2,hrm⟩:∃ (rf:Bool) (g2:Nat->Int),(rf=decide (L (epA x)≠[]/\S (epA x)≠s))/\(∃ Q P c L S,EInv T4 EpA g2 Q P c L S/\(rf=false->thA x∈L (epA x)))/\zJ PP cP 20 [.int .i64 (epA x),.int .i64 (thA x),.int .i64 ((s:Int)+1)] g1 (.tuple #[]) g2/\zJ PP cR 58 [.int .i64 (epA x),.int .i64 (thA x),.int .i64 ((s:Int)+1)] g1 (.tuple #[]) g2/\RightAt g2 (thA x)/\(za g2 (thA x)).st=(if rf=true then 0 else (s:Int)+1)/\True:=by
   by_cases hre:L (epA x)≠[]/\S (epA x)≠s
   ·exact⟨true,g1,(decide_eq_true hre).symm,⟨_,_,_,_,_,h1,fun h=>by cases h⟩,joinN_p h1 hep hs hre.1 hre.2,joinN_r h1 hep hs hre.1 hre.2,hr1,by rw[if_pos rfl];exact hg1st,trivial⟩
   ·have hL:L (epA x)=[]\/S (epA x)=s:=by
     by_cases e0:L (epA x)=[]
     ·exact .inl e0
     ·exact .inr (Classical.byContradiction fun e1=>hre ⟨e0,e1⟩)
    have h2:=join_E z5 ze8 h1 ht hP1 hep (s:=s) (by omega) hL
    have hm:thA x∈za3 L (epA x) (L (epA x) ++ [thA x]) (epA x):=by rw[zP];simp
    obtain⟨_,b2',b3,_,_,b6⟩:=h2.w (epA x) _ hep hm
    refine⟨false,zaa g1 (epA x) (thA x) s,(decide_eq_false hre).symm,⟨_,_,_,_,_,h2,fun _=>hm⟩,join_p h1 ht hep hs hL,join_r h1 ht hep hs hL,b2',?_,trivial⟩
    rw[if_neg (by simp)]
    have:(za (zaa g1 (epA x) (thA x) s) (thA x)).st=((if epA x=epA x then (s:Int) else S (epA x)):Int)+1:=by
     rw[<- b6,<- b3];rfl
    rw[this,if_pos rfl]
  obtain⟨Q2,P2,c2,L2,S2,h2,hm2⟩:=h2
  -- the case's number
  obtain⟨cs,hcs⟩:∃ cs,cs=1+(if x.r=true then 4 else 0)+(if rf=true then 2 else 0)+(if ran=true then 1 else 0):=⟨_,rfl⟩
  have hcs15:cs<15:=by rw[hcs];split <;> split <;> split <;> omega
  have hcls:isJ cs=true/\rcA cs=x.r/\rfA cs=rf/\rnA cs=ran/\doA cs=1:=by
   rw[hcs]
   cases x.r <;> cases rf <;> cases ran <;> exact⟨rfl,rfl,rfl,rfl,rfl⟩
  obtain⟨k1,k2,k3,k4,k5⟩:=hcls
  have hsnd:snd cs=decide (s=1/\rf=false):=by
   unfold snd
   rw[k2,k3,hrc]
   rcases hs with rfl | rfl <;> cases rf <;> rfl
  have hstJ:∀ E ρ,(stJ cs).γ E ρ=.int .i64 ((s:Int)+1):=fun E ρ=>by
   unfold stJ
   rw[k2,hrc]
   rcases hs with rfl | rfl <;> rfl
  have facts:∀ tl (v6:TV) (r6:Nat->Int),v6=za g2 (thA x)->∀ E,AgV E (vsA base x (za f (thA x)) (zp f (thA x)) v6 r6 tl)->j8 E (fsA cs):=fun tl v6 r6 hv6 E hE=>by
   have g500:E.i 500=(P (thA x)).st:=(z4 zeA hE (j:=0) (by omega)).trans hstg
   have g600:E.i 600=(if rf=true then 0 else (s:Int)+1):=((z4 zoI hE (j:=0) (by omega)).trans (by rw[hv6];rfl)).trans hst2
   have g17:E.i 17=b2 x.r:=(hE 17 (by omega) (by omega)).trans (yp hb).r
   refine jS (hdo cs (yp hb) hE k5) ?_
   unfold fsC
   rw[k1,k4,k2]
   refine jS ?_ ⟨sbq g17,?_,trivial⟩
   ·rw[hran]
    by_cases e1:(P (thA x)).st=1
    ·rw[decide_eq_true e1]
     exact⟨j7 (by show E.i 500≠0;omega),yu (by show E.i 500=1;omega),trivial⟩
    ·rw[decide_eq_false e1]
     exact⟨yu (by show E.i 500=0;omega),trivial⟩
   ·show (SB.cmp .neq (.v 600) (.lit 2)).den E = !snd cs
    rw[hsnd]
    cases hrf':rf with
    | true=>
     rw[hrf',if_pos rfl]at g600
     rw[decide_eq_false (by simp)]
     exact j7 (by show E.i 600≠2;omega)
    | false=>
     rw[hrf',if_neg (by simp)]at g600
     rcases hs with rfl | rfl
     ·rw[decide_eq_true ⟨rfl,rfl⟩]
      exact yu (by show E.i 600=2;omega)
     ·rw[decide_eq_false (by omega)]
      exact j7 (by show E.i 600≠2;omega)
  have eP:shP cs=cl 56 [Tv,z0]::cl 20 [Ev',Tv,stJ cs]::(bif snd cs then [zey 59 Tv bdX] else []):=by
   show (bif isJ cs then _ else _)=_
   rw[k1];rfl
  have eR:shR cs=rdT 62 Tv 500::cl 57 [Tv,z0]::cl 58 [Ev',Tv,stJ cs]::rdT 62 Tv 600::(bif snd cs then [zey 83 Tv bdX] else []):=by
   show (bif isJ cs then _ else _)=_
   rw[k1];rfl
  by_cases hsn:s=1/\rf=false
  ·-- it sends: a badge,a fault
   have hm:=hm2 hsn.2
   have ptb:=zbx (c:=x.b) (n:=100) (by omega)
   have pfk:=zbx (c:=x.k) (n:=4) (by omega)
   have hv2:=zh hr2
   obtain⟨w,hwd⟩:∃ w:TV,w={ za g2 (thA x) with bd:=jk x.b 100,fk:=jk x.k 4 }:=⟨_,rfl⟩
   have hwr:w.Right:=by
    rw[hwd]
    exact⟨hv2.st,hv2.pr,hv2.sl,hv2.pv,hv2.nx,hv2.bl,by show 0<=jk x.b 100/\jk x.b 100<268435456;omega,hv2.bo,hv2.ha,by show 0<=jk x.k 4/\jk x.k 4<4;omega,hv2.fa⟩
   have h3:=set_E z5 ze8 h2 hep hm (v:=w) hwr (by rw[hwd]) (by rw[hwd]) (by rw[hwd]) (by rw[hwd]) (by rw[hwd])
   rw[decide_eq_true hsn]at hsnd
   have hbx:∀ tl,∀ E,AgV E (vsA base x (za f (thA x)) (zp f (thA x)) (za g2 (thA x)) (zp g2 (thA x)) tl)->∀ ρ,bdX.γ E ρ=thV w (zp g2 (thA x)):=fun tl E hE ρ=>by
    have t6:=zoI (base:=base) (x:=x) (v5:=za f (thA x)) (r5:=zp f (thA x)) (v6:=za g2 (thA x)) (r6:=zp g2 (thA x)) (tl:=tl)
    have hac:=yp (x:=x) (v5:=za f (thA x)) (r5:=zp f (thA x)) (v6:=za g2 (thA x)) (r6:=zp g2 (thA x)) (tl:=tl) hb
    rw[hwd]
    exact zc7 (w:={ za g2 (thA x) with bd:=jk x.b 100,fk:=jk x.k 4 }) t6 hE (vsi (z4 t6 hE (j:=0) (by omega))) (vsb (sbq (z4 t6 hE (j:=3) (by omega)))) (vsi (z4 t6 hE (j:=4) (by omega))) (vsi (z4 t6 hE (j:=5) (by omega))) (vsi (z4 t6 hE (j:=6) (by omega))) (vsi ((hE 303 (by omega) (by omega)).trans hac.bd)) (vsb (sbq (z4 t6 hE (j:=8) (by omega)))) (vsb (sbq (z4 t6 hE (j:=9) (by omega)))) (vsi ((hE 304 (by omega) (by omega)).trans hac.fk)) rfl rfl rfl rfl rfl
   refine⟨cs,zg g2 (thA x) w,hcs15,⟨_,_,_,_,_,h3⟩,fun tl=>⟨vsA base x (za f (thA x)) (zp f (thA x)) (za g2 (thA x)) (zp g2 (thA x)) tl,fun i hi=>ziT hi,fun i hi=>ziS hi,yp hb,?_,?_,facts tl _ _ rfl⟩⟩
   ·rw[eP,hsnd]
    exact zcH sp (fun E hE ρ=>yY (zbl (yp hb) E hE ρ) rfl) (zcH jp (fun E hE ρ=>zbF (zjH (yp hb) E hE ρ) (zbl (yp hb) E hE ρ) (hstJ E ρ)) (zdF yJ hT hwr (zbo g2) (zbl (yp hb)) (hbx tl) (z7 _)))
   ·rw[eR,hsnd]
    exact zaJ yB hT hrt (zbl (yp hb)) zeA (zcH sr (fun E hE ρ=>yY (zbl (yp hb) E hE ρ) rfl) (zcH jr (fun E hE ρ=>zbF (zjH (yp hb) E hE ρ) (zbl (yp hb) E hE ρ) (hstJ E ρ)) (zaJ yB hT hr2 (zbl (yp hb)) zoI (zdF yB hT hwr (zbo g2) (zbl (yp hb)) (hbx tl) (z7 _)))))
  ·rw[decide_eq_false hsn]at hsnd
   refine⟨cs,g2,hcs15,⟨_,_,_,_,_,h2⟩,fun tl=>⟨vsA base x (za f (thA x)) (zp f (thA x)) (za g2 (thA x)) (zp g2 (thA x)) tl,fun i hi=>ziT hi,fun i hi=>ziS hi,yp hb,?_,?_,facts tl _ _ rfl⟩⟩
   ·rw[eP,hsnd]
    exact zcH sp (fun E hE ρ=>yY (zbl (yp hb) E hE ρ) rfl) (zcH jp (fun E hE ρ=>zbF (zjH (yp hb) E hE ρ) (zbl (yp hb) E hE ρ) (hstJ E ρ)) (z7 _))
   ·rw[eR,hsnd]
    exact zaJ yB hT hrt (zbl (yp hb)) zeA (zcH sr (fun E hE ρ=>yY (zbl (yp hb) E hE ρ) rfl) (zcH jr (fun E hE ρ=>zbF (zjH (yp hb) E hE ρ) (zbl (yp hb) E hE ρ) (hstJ E ρ)) (zaJ yB hT hr2 (zbl (yp hb)) zoI (z7 _))))
theorem act_ex (hf:WOk f) (hb:BaV base x):∃ cs f',cs<15/\WOk f'/\ActC f x base cs f':=by
 obtain⟨Q,P,c,L,S,h⟩:=hf
 have hT:=thA_t x
 have hep:=epA_e x
 have hrt:=zaq h hT
 have at1:∀ vs,AcV vs x->∀ E,AgV E vs->∀ ρ,γL E ρ [Tv]=[.int .i64 (thA x:Nat)]:=fun vs hv E hE ρ=>jQ (zbl hv E hE ρ)
 have ae1:∀ vs,AcV vs x->∀ E,AgV E vs->∀ ρ,γL E ρ [Ev']=[.int .i64 (epA x:Nat)]:=fun vs hv E hE ρ=>jQ (zjH hv E hE ρ)
 have hdo:∀ {vs E} (cs:Nat),AcV vs x->AgV E vs->(doA cs<=5->x.d=(doA cs:Nat))->(∀ i:Nat,1<=i->i<doA cs->x.d≠(i:Int))->j8 E (fsDo cs):=fun cs hv hE a b=>zpp (dI13 hv hE) a b
 by_cases d1:x.d=1
 ·exact zty h hb d1
 by_cases d2:x.d=2
 ·-- it leaves
  have go:∀ f',WOk f'->zJ PP cP 21 [.int .i64 (thA x:Nat)] f (.tuple #[]) f'->zJ PP cR 26 [.int .i64 (thA x:Nat)] f (.tuple #[]) f'->∃ cs f',cs<15/\WOk f'/\ActC f x base cs f':=fun f' hw hp hr=>
   ⟨9,f',by omega,hw,zeU hb rfl rfl hp hr at1 fun vs hv E hE=>jS (hdo 9 hv hE (fun _=>d2) (fun i a b=>by have b:i<2:=b;omega)) trivial⟩
  by_cases hw:Wt EpA L (thA x)
  ·obtain⟨e',he',hm⟩:=hw
   obtain⟨a,b,hab⟩:=List.append_of_mem hm
   exact go _ ⟨_,_,_,_,_,zgC z5 ze8 h he' hab⟩ (zpd h he' hab) (zpc h he' hab)
  ·have hst:(za f (thA x)).st=0\/(za f (thA x)).st=1:=by
    have:(za f (thA x)).st=(P (thA x)).st:=by rw[<- h.ss.th _ ⟨hT,hw⟩];rfl
    rw[this];exact(h.fr _ ⟨hT,hw⟩).1
   exact go f ⟨_,_,_,_,_,h⟩ (ztl hT hrt hst) (ztk hT hrt hst)
 by_cases d3:x.d=3
 ·-- it is woken,if it does nothing
  by_cases h0:(za f (thA x)).st=0
  ·have hw:¬ Wt EpA L (thA x):=by
    rintro ⟨e',he',hm⟩
    obtain⟨_,_,hct,_,_,hst⟩:=h.w e' _ he' hm
    have:(za f (thA x)).st=S e'+1:=by rw[<- hst,<- hct];rfl
    have:=h.s e' he'
    omega
   have ht:Fre T4 EpA L (thA x):=⟨hT,hw⟩
   obtain⟨Q',h'⟩:=wake_E z5 ze8 h ht
   refine⟨10,zc6 f (thA x),by omega,⟨_,_,_,_,_,h'⟩,fun tl=>⟨vsA base x (za f (thA x)) (zp f (thA x)) (za f (thA x)) (zp f (thA x)) tl,fun i hi=>ziT hi,fun i hi=>ziS hi,yp hb,zcH (zoH h.ss ht) (at1 _ (yp hb)) (z7 _),zaJ yB hT hrt (zbl (yp hb)) zeA (zcH (zoG h.ss ht) (at1 _ (yp hb)) (z7 _)),fun E hE=>?_⟩⟩
   have g500:E.i 500=0:=(z4 zeA hE (j:=0) (by omega)).trans h0
   exact jS (hdo 10 (yp hb) hE (fun _=>d3) (fun i a b=>by have b:i<3:=b;omega)) ⟨zal g500,trivial⟩
  ·refine⟨11,f,by omega,⟨_,_,_,_,_,h⟩,fun tl=>⟨vsA base x (za f (thA x)) (zp f (thA x)) (za f (thA x)) (zp f (thA x)) tl,fun i hi=>ziT hi,fun i hi=>ziS hi,yp hb,z7 f,zaJ yB hT hrt (zbl (yp hb)) zeA (z7 f),fun E hE=>?_⟩⟩
   have g500:E.i 500=(za f (thA x)).st:=z4 zeA hE (j:=0) (by omega)
   exact jS (hdo 11 (yp hb) hE (fun _=>d3) (fun i a b=>by have b:i<3:=b;omega)) ⟨yM (by show E.i 500≠0;rw[g500];exact h0),trivial⟩
 by_cases d4:x.d=4
 ·obtain⟨Q',P',h',_⟩:=can_E hep h rfl
  exact⟨12,_,by omega,⟨_,_,_,_,_,h'⟩,zeU hb rfl rfl (zuH h hep) (zuG h hep) ae1 fun vs hv E hE=>jS (hdo 12 hv hE (fun _=>d4) (fun i a b=>by have b:i<4:=b;omega)) trivial⟩
 by_cases d5:x.d=5
 ·have a2:∀ vs,AcV vs x->∀ E,AgV E vs->∀ ρ,γL E ρ [Ev',sv 303]=[.int .i64 (epA x:Nat),.int .i64 (jk x.b 100)]:=fun vs hv E hE ρ=>yY (zjH hv E hE ρ) (vsi ((hE 303 (by omega) (by omega)).trans hv.bd))
  have hfs:∀ vs,AcV vs x->∀ E,AgV E vs->j8 E (fsA 13):=fun vs hv E hE=>jS (hdo 13 hv hE (fun _=>d5) (fun i a b=>by have b:i<5:=b;omega)) trivial
  by_cases hn:L (epA x)=[]\/S (epA x)=2
  ·exact⟨13,f,by omega,⟨_,_,_,_,_,h⟩,zeU hb rfl rfl (zm9 h hep hn _) (zuR h hep hn _) a2 hfs⟩
  ·have hne:L (epA x)≠[]:=fun e0=>hn (.inl e0)
   have hS:S (epA x)=1:=(h.s _ hep).resolve_right fun e0=>hn (.inr e0)
   obtain⟨Q',P',h',_⟩:=zpC hep (bd:=jk x.b 100) (r:=L (epA x)) (kept:=[]) h rfl
   exact⟨13,_,by omega,⟨_,_,_,_,_,h'⟩,zeU hb rfl rfl (zpA h hep hne hS _) (badge_r h hep hne hS _) a2 hfs⟩
 ·-- it settles
  have hfs:∀ vs,AcV vs x->∀ E,AgV E vs->j8 E (fsA 14):=fun vs hv E hE=>jS (hdo 14 hv hE (fun h=>absurd h (by decide)) (fun i a b=>by have b:i<6:=b;omega)) trivial
  have go:∀ f',WOk f'->zJ PP cP 33 [] f (.tuple #[]) f'->zJ PP cR 34 [] f (.tuple #[]) f'->∃ cs f',cs<15/\WOk f'/\ActC f x base cs f':=fun f' hw hp hr=>⟨14,f',by omega,hw,zeU hb rfl rfl hp hr (fun _ _ _ _ _=>rfl) hfs⟩
  obtain⟨o,ho,hp⟩:=high_p h.ss.q
  have hr:=high_r h.ss.q ho
  cases ho with
  | none hz=>exact go f ⟨_,_,_,_,_,h⟩ (zp7 h.ss hp) (zp6 h.ss hr)
  | some p hp256 hne hab=>
   match hQ:Q p,hne with
   | y::r,_=>
    have e:topH Q (some p)=(y:Int):=by show ((hdN (Q p) 0:Nat):Int)=y;rw[hQ];rfl
    rw[e]at hp hr
    obtain⟨hTy,_,hq⟩:=h.ss.q.el p y hp256 (by rw[hQ];simp)
    obtain⟨Q',c',h'⟩:=zrY z5 ze8 h hp256 hQ
    exact go _ ⟨_,_,_,_,_,h'⟩ (zpZ h.ss hTy hq hp) (zpY h.ss hTy hq hr)
end Go.Ev.X
end
