import Derived.Test.YtcinokgfjdifbaaGreatJR
set_option linter.unusedSimpArgs false
set_option linter.unusedVariables false
set_option maxRecDepth 100000
noncomputable section
namespace Go.Ev.X
open Go Go.Ev Go.Proofs
variable {E:Env} {f g:Nat->Int} {t e:Nat} {L:Nat->List Nat} {Q:Nat->List Nat} {P:Nat->TV} {c:Nat} {S:Nat->Int}
theorem zqK {l:List Nat} {t i:Nat} (h:i<l.length):(l ++ [t]).getD i 0=l.getD i 0:=by
 rw[List.getD_eq_getElem?_getD,List.getD_eq_getElem?_getD,List.getElem?_append_left h]
theorem zqJ {l:List Nat} {t:Nat}:(l ++ [t]).getD l.length 0=t:=by
 rw[List.getD_eq_getElem?_getD,List.getElem?_append_right (Nat.le_refl _)];simp
set_option maxHeartbeats 2000000 in
theorem join_r (h:EInv T4 EpA f Q P c L S) (ht:Fre T4 EpA L t) (he:EpA e) {s:Nat} (hs:s=1\/s=2) (hL:L e=[]\/S e=s):zJ PP cR 58 [.int .i64 e,.int .i64 t,.int .i64 ((s:Int)+1)] f (.tuple #[]) (zaa f e t s):=by
 obtain⟨w1,w2,w3,w4,w5⟩:=jB z5 h he
 have hT:=ht.1
 have hrt:=zaq h hT
 have hlo:=z5.lo t hT
 have hhi:=z5.hi t hT
 have hel:=ze8.lo e he
 have hnt:t∉L e:=fun hm=>ht.2 ⟨e,he,hm⟩
 have hb:=zi0 (zh hrt) hel.2 (s:=s) (by omega)
 have hlT:∀ u∈L e,T4 u:=fun u hu=>(h.w e u he hu).1
 have hl0:∀ u∈L e,u≠0:=fun u hu=>by have:=zag z5 h he u hu;omega
 have ap:∀ u,T4 u->u≠t->zbf t u:=fun u hu hne=>zpJ hT hu (Ne.symm hne)
 obtain⟨g1,hg1⟩:∃ g1,g1=zg f t (blkV (za f t) e s):=⟨_,rfl⟩
 have hr1:∀ u,T4 u->RightAt g1 u:=fun u hu=>by
  rw[hg1]
  by_cases e2:u=t
  ·rw[e2];exact yZ hb
  ·exact yh (ap u hu e2) (zaq h hu)
 have hlk1:Lk g1 0 (L e) 0:=by
  rw[hg1]
  exact zhD z5 hT (fun u hu=>⟨hlT u hu,fun e2=>hnt (e2 ▸ hu)⟩) (h.lk e he)
 have he1:g1 e=f e:=by
  rw[hg1]
  exact ze _ _ (ze8.ap e t he hT)
 have hl2T:∀ u∈L e ++ [t],T4 u:=fun u hu=>by
  rcases List.mem_append.1 hu with h1 | h1
  ·exact hlT u h1
  ·have:u=t:=by simpa using h1
   rw[this];exact hT
 have hn4:(L e).length<=3:=by
  have:=len4 (l:=L e ++ [t]) (List.nodup_append.2 ⟨h.nd e he,by simp,fun x hx y hy e2=>by
   have:y=t:=by simpa using hy
   rw[e2,this]at hx;exact hnt hx⟩) hl2T
  simp at this
  omega
 have hl2:(L e ++ [t]).length=(L e).length+1:=by simp
 obtain⟨vs,hvs⟩:∃ vs,vs=vsD t e (f e) (za f t) (zp f t) g1 (L e) (ze0 g1 (L e ++ [t])) (L e ++ [t]):=⟨_,rfl⟩
 have tl1:TlB vs 100 (za f t) (zp f t):=by rw[hvs];exact vsD_1
 have at':∀ E,AgV E vs->∀ ρ,vt.γ E ρ=.int .i64 t:=zaE (by omega) (by omega) (by rw[hvs];rfl)
 have ae:∀ E,AgV E vs->∀ ρ,ve.γ E ρ=.int .i64 e:=zaE (by omega) (by omega) (by rw[hvs];rfl)
 have v200:vs 200=stQ (f e):=by rw[hvs];rfl
 have v201:vs 201=hdQ (f e):=by rw[hvs];rfl
 have v202:vs 202=tlQ (f e):=by rw[hvs];rfl
 have lv:LsV vs 201 g1 (L e):=⟨by omega,by rw[v201,w2],fun i hi=>by rw[hvs];exact vsD_10 (by omega)⟩
 have hσ:∀ i,i<(L e ++ [t]).length->∀ E,AgV E vs->∀ ρ,(sgJ (L e).length i).γ E ρ=.int .i64 ((L e ++ [t]).getD i 0:Nat):=fun i hi E hE ρ=>by
  unfold sgJ
  by_cases e2:i<(L e).length
  ·rw[show Nat.blt i (L e).length=true by rw[Nat.blt_eq];exact e2,zqK e2]
   exact vsi (zbX lv hlk1 hE e2)
  ·have:i=(L e).length:=by omega
   subst this
   rw[show Nat.blt (L e).length (L e).length=false by rw[Bool.eq_false_iff,ne_eq,Nat.blt_eq];omega,zqJ]
   exact at' E hE ρ
 have chl:=zjb yB lv hlk1 hlT (fun u hu=>hr1 u (hlT u hu)) (L e).length 0 (by omega)
 have chk:=lk_ch (g:=g1) (σ:=sgJ (L e).length) hl2T hr1 hσ (fun i hi=>by rw[hvs];exact vsD_20 (by omega)) (L e ++ [t]).length 0 (by omega)
 rw[lnkI_n,lnkI_0,hl2]at chk
 have fin:=ztz z5 ze8 h ht he (s:=s) (by omega)
 rw[<- hg1]at fin
 have zr:∀ n,n<4->runJR s n=0:=fun n hn=>by
  have:=zt zl1 s (jO (by omega) (by omega))
  simp only[Bool.and_eq_true]at this
  exact Nat.eq_of_beq_eq_true (rng_ok this.2 n hn)
 have hd0:(L e ++ [t]).getD 0 0=hdN (L e ++ [t]) 0:=(ze7 _).symm
 have hdl:0<hdN (L e ++ [t]) 0/\hdN (L e ++ [t]) 0<65536:=by
  have:=z5.lo _ (hl2T _ (zw (l:=L e ++ [t]) (n:=0) (by simp)))
  have:=z5.hi _ (hl2T _ (zw (l:=L e ++ [t]) (n:=0) (by simp)))
  omega
 rw[<- fin]
 refine zbs yB (sh:=shJR s (L e).length) (fs:=fsJR s (L e).length) (l:=[ve,vt,zfp s]) (v:=.tup []) (zr _ (by omega)) rfl (by simp[shJR]) (vs:=vs)
  (zbD yB he (zbL h he) ae (by omega) v200 v201 v202 (zaJ yB hT hrt at' tl1 (zdF yB hT hb (zbo f) at' (fun E hE ρ=>?_) ?_))) (fun E hE=>?_) (fun E hE ρ=>zbF (ae E hE ρ) (at' E hE ρ) zei) (fun E hE ρ=>rfl)
 ·exact zc7 (w:=blkV (za f t) e s) tl1 hE zei (vsb (sbq (z4 tl1 hE (j:=3) (by omega)))) (vsi (z4 tl1 hE (j:=4) (by omega))) (vsi (z4 tl1 hE (j:=5) (by omega))) (ae E hE ρ) (vsi (z4 tl1 hE (j:=7) (by omega))) (vsb (sbq (z4 tl1 hE (j:=8) (by omega)))) (vsb (sbq (z4 tl1 hE (j:=9) (by omega)))) (vsi (z4 tl1 hE (j:=12) (by omega))) rfl rfl rfl rfl rfl
 ·rw[<- hg1]
  refine zbD yB he (by rw[he1];exact zbL h he) ae (by omega) (by rw[he1];exact v200) (by rw[he1];exact v201) (by rw[he1];exact v202) (zbu chl (zbu chk ?_))
  exact zjy yB he (x:=(s:Nat)) (y:=(hdN (L e ++ [t]) 0:Nat)) (z:=(t:Nat)) (zfw hs hdl (by omega)) ae vlit (fun E hE ρ=>by rw[hσ 0 (by omega) E hE ρ,hd0]) at' (z7 _)
 ·refine jS ?_ (zeY lv hlk1 hl0 hE)
  have g200:E.i 200=stQ (f e):=(hE 200 (by omega) (by omega)).trans v200
  by_cases e2:L e=[]
  ·rw[e2]
   refine⟨yu ?_,trivial⟩
   rw[if_pos e2]at w1
   show E.i 200=0
   rw[g200];exact w1
  ·have hne:(L e).length≠0:=fun e3=>e2 (List.length_eq_zero_iff.1 e3)
   rw[if_neg e2]at w1
   have hSe:S e=s:=hL.resolve_left e2
   rw[show Nat.beq (L e).length 0=false by rw[Bool.eq_false_iff];simpa using e2]
   refine⟨j7 ?_,yu ?_,trivial⟩
   ·show E.i 200≠0
    omega
   ·show E.i 200=(s:Nat)
    omega
theorem joinN_r (h:EInv T4 EpA f Q P c L S) (he:EpA e) {s:Nat} (hs:s=1\/s=2) (hL:L e≠[]) (hS:S e≠s):zJ PP cR 58 [.int .i64 e,.int .i64 t,.int .i64 ((s:Int)+1)] f (.tuple #[]) f:=by
 obtain⟨w1,w2,w3,w4,w5⟩:=jB z5 h he
 rw[if_neg hL]at w1
 have hSe:=h.s e he
 have zr:runJRn s=0:=by
  have:=zt zl1 s (jO (by omega) (by omega))
  simp only[Bool.and_eq_true,Nat.beq_eq]at this
  exact this.1
 refine zbs yB (l:=[ve,vt,zfp s]) (v:=.tup []) zr rfl (by simp) (vs:=vsD t e (f e) (za f t) (zp f t) f [] (fun _=>f) [])
  (zbD yB he (zbL h he) (zaE (by omega) (by omega) rfl) (by omega) rfl rfl rfl (z7 _)) (fun E hE=>⟨j7 ?_,j7 ?_,trivial⟩) (fun E hE ρ=>zbF (zaE (by omega) (by omega) rfl E hE ρ) (zaE (by omega) (by omega) rfl E hE ρ) zei) (fun E hE ρ=>rfl)
 ·show E.i 200≠0
  rw[hE 200 (by omega) (by omega)]
  show stQ (f e)≠0
  omega
 ·show E.i 200≠(s:Nat)
  rw[hE 200 (by omega) (by omega)]
  show stQ (f e)≠_
  omega
end Go.Ev.X
end
set_option linter.unusedSimpArgs false
set_option linter.unusedVariables false
set_option maxRecDepth 100000
noncomputable section
namespace Go.Ev.X
open Go Go.Ev Go.Proofs
variable {E:Env} {f g:Nat->Int} {t e:Nat} {L:Nat->List Nat} {Q:Nat->List Nat} {P:Nat->TV} {c:Nat} {S:Nat->Int}
theorem ztL {a b:List Nat} {t i:Nat}:(a ++ t::b).getD (if i<a.length then i else i+1) 0=(a ++ b).getD i 0:=by
 rw[List.getD_eq_getElem?_getD,List.getD_eq_getElem?_getD]
 by_cases h:i<a.length
 ·rw[if_pos h,List.getElem?_append_left h,List.getElem?_append_left h]
 ·rw[if_neg h,List.getElem?_append_right (by omega),List.getElem?_append_right (by omega),show i+1 - a.length=(i - a.length)+1 from by omega]
  rfl
theorem getD_t {a b:List Nat} {t:Nat}:(a ++ t::b).getD a.length 0=t:=by
 rw[List.getD_eq_getElem?_getD,List.getElem?_append_right (Nat.le_refl _)];simp
set_option maxHeartbeats 2000000 in
theorem zpc (h:EInv T4 EpA f Q P c L S) (he:EpA e) {a b:List Nat} (hab:L e=a ++ t::b):zJ PP cR 26 [.int .i64 t] f (.tuple #[]) (yX f e t):=by
 have htm:t∈L e:=by rw[hab];simp
 obtain⟨hT,hrt,hct,hqt,hbl,hst⟩:=h.w e t he htm
 obtain⟨w1,w2,w3,w4,w5⟩:=jB z5 h he
 rw[if_neg (by rw[hab];simp)]at w1
 have hSe:=h.s e he
 have hbl':(za f t).bl=(e:Int):=by rw[<- hbl,<- hct];rfl
 have hst':(za f t).st=S e+1:=by rw[<- hst,<- hct];rfl
 have hlT:∀ u∈L e,T4 u:=fun u hu=>(h.w e u he hu).1
 have hlr:∀ u∈L e,RightAt f u:=fun u hu=>(h.w e u he hu).2.1
 have hl0:∀ u∈L e,u≠0:=fun u hu=>by have:=zag z5 h he u hu;omega
 have hnd:=h.nd e he
 have hn4:=len4 hnd hlT
 have hlk:=h.lk e he
 have hab':∀ u∈a ++ b,u∈L e:=fun u hu=>by
  rw[hab]
  rcases List.mem_append.1 hu with h1 | h1
  ·simp[h1]
  ·simp[h1]
 have hl2T:∀ u∈a ++ b,T4 u:=fun u hu=>hlT u (hab' u hu)
 have hlen:(L e).length=(a ++ b).length+1:=by rw[hab];simp;omega
 have hpa:a.length<(L e).length:=by rw[hab];simp
 have hlv:=zdo (zh hrt)
 obtain⟨g0,hg0⟩:∃ g0,g0=zg f t (zbr (za f t)):=⟨_,rfl⟩
 have hr0:∀ u,T4 u->RightAt g0 u:=fun u hu=>by
  rw[hg0]
  by_cases e2:u=t
  ·rw[e2];exact yZ hlv
  ·exact yh (zpJ hT hu (Ne.symm e2)) (zaq h hu)
 obtain⟨vs,hvs⟩:∃ vs,vs=vsD t e (f e) (za f t) (zp f t) f (L e) (ze0 g0 (a ++ b)) (a ++ b):=⟨_,rfl⟩
 have tl1:TlB vs 100 (za f t) (zp f t):=by rw[hvs];exact vsD_1
 have at':∀ E,AgV E vs->∀ ρ,vt.γ E ρ=.int .i64 t:=zaE (by omega) (by omega) (by rw[hvs];rfl)
 have a106:∀ E,AgV E vs->∀ ρ,(sv 106).γ E ρ=.int .i64 e:=zaE (by omega) (by omega) ((tl1.2.2 6 (by omega)).trans hbl')
 have v200:vs 200=stQ (f e):=by rw[hvs];rfl
 have v201:vs 201=hdQ (f e):=by rw[hvs];rfl
 have v202:vs 202=tlQ (f e):=by rw[hvs];rfl
 have lv:LsV vs 201 f (L e):=⟨by omega,by rw[v201,w2],fun i hi=>by rw[hvs];exact vsD_10 (by omega)⟩
 have hidx:∀ i,(bif Nat.blt i a.length then i else i+1)=if i<a.length then i else i+1:=fun i=>by
  by_cases e2:i<a.length
  ·rw[show Nat.blt i a.length=true by rw[Nat.blt_eq];exact e2,if_pos e2];rfl
  ·rw[show Nat.blt i a.length=false by rw[Bool.eq_false_iff,ne_eq,Nat.blt_eq];exact e2,if_neg e2];rfl
 have hσ:∀ i,i<(a ++ b).length->∀ E,AgV E vs->∀ ρ,(sgL' a.length i).γ E ρ=.int .i64 ((a ++ b).getD i 0:Nat):=fun i hi E hE ρ=>by
  unfold sgL'
  rw[hidx i,<- ztL (t:=t),<- hab]
  exact vsi (zbX lv hlk hE (by split <;> omega))
 have chl:=zjb yB lv hlk hlT hlr (L e).length 0 (by omega)
 have chk:=lk_ch (g:=g0) (σ:=sgL' a.length) hl2T hr0 hσ (fun i hi=>by rw[hvs];exact vsD_20 (by omega)) (a ++ b).length 0 (by omega)
 rw[lnkI_n,lnkI_0]at chk
 have hpr:Nat.pred (L e).length=(a ++ b).length:=by rw[hlen];rfl
 have fin:=zqr z5 ze8 h he hab
 rw[<- hg0]at fin
 obtain⟨sn,hsn,hs12⟩:∃ sn:Nat,S e=sn/\(sn=1\/sn=2):=by
  rcases hSe with h1 | h1
  ·exact⟨1,h1,.inl rfl⟩
  ·exact⟨2,h1,.inr rfl⟩
 have zr:runLR sn (L e).length a.length=0:=Nat.eq_of_beq_eq_true (rng_ok (zt (zt zsc sn (jO (by omega) (by omega))) (L e).length (jO (by omega) (by omega))) a.length hpa)
 rw[<- fin]
 refine zbs yB (sh:=shLR (L e).length a.length) (fs:=fsLR sn (L e).length a.length) (l:=[vt]) (v:=.tup []) zr rfl (by simp[shLR]) (vs:=vs)
  (zaJ yB hT hrt at' tl1 (zbD yB he (zbL h he) a106 (by omega) v200 v201 v202 (zbD yB he (zbL h he) a106 (by omega) v200 v201 v202 (zbu chl (zdF yB hT hlv (zbo f) at' (fun E hE ρ=>clr_ok tl1 hE ρ) ?_))))) (fun E hE=>?_) (fun E hE ρ=>jQ (at' E hE ρ)) (fun E hE ρ=>rfl)
 ·rw[<- hg0,hpr]
  refine zbu chk ?_
  by_cases e1:(L e).length=1
  ·have hnil:a ++ b=[]:=List.length_eq_zero_iff.1 (by omega)
   rw[show Nat.beq (L e).length 1=true by simpa using e1,hnil]
   exact zjy yB he (x:=0) (y:=0) (z:=0) (.inl ⟨rfl,rfl,rfl⟩) a106 (fun E hE ρ=>rfl) (fun E hE ρ=>rfl) (fun E hE ρ=>rfl) (z7 _)
  ·have hne:a ++ b≠[]:=fun e2=>e1 (by rw[hlen,e2];rfl)
   rw[show Nat.beq (L e).length 1=false by rw[Bool.eq_false_iff];simpa using e1]
   have hw:zc5 (a ++ b) (S e)=qwV (S e) (hdN (a ++ b) 0:Nat) (laN (a ++ b) 0:Nat):=by
    cases hl:a ++ b with
    | nil=>exact absurd hl hne
    | cons x r=>rfl
   rw[hw]
   have h1:=zag z5 h he _ (hab' _ (zw (n:=0) hne))
   have h2:=zag z5 h he _ (hab' _ (zu (p:=0) hne))
   refine zjy yB he (x:=S e) (y:=(hdN (a ++ b) 0:Nat)) (z:=(laN (a ++ b) 0:Nat)) (.inr ⟨hSe,by omega,by omega⟩) a106 (zaE (by omega) (by omega) (by rw[v200,w1])) (fun E hE ρ=>?_) (fun E hE ρ=>?_) (z7 _)
   ·rw[ze7];exact hσ 0 (by omega) E hE ρ
   ·rw[ztp hne]
    exact hσ ((a ++ b).length - 1) (by omega) E hE ρ
 ·have g100:E.i 100=S e+1:=(z4 tl1 hE (j:=0) (by omega)).trans hst'
  refine jS ?_ (jS (zeY lv hlk hl0 hE) (zgD _ _ fun k h1 h2=>?_))
  ·rcases hs12 with rfl | rfl
   ·exact⟨yu (by show E.i 100=2;omega),trivial⟩
   ·exact⟨j7 (by show E.i 100≠2;omega),yu (by show E.i 100=3;omega),trivial⟩
  ·have hk:k<(L e).length:=by omega
   have hd:=zbX lv hlk hE hk
   have v1:E.i 1=(t:Int):=(hE 1 (by omega) (by omega)).trans (by rw[hvs];rfl)
   by_cases e2:k=a.length
   ·show (SB.cmp .neq (symE 201 k) (.v 1)).den E = !Nat.beq k a.length
    rw[show Nat.beq k a.length=true by simpa using e2]
    refine yu ?_
    rw[hd,e2,hab,getD_t];exact v1.symm
   ·show (SB.cmp .neq (symE 201 k) (.v 1)).den E = !Nat.beq k a.length
    rw[show Nat.beq k a.length=false by rw[Bool.eq_false_iff];simpa using e2]
    refine j7 ?_
    show (symE 201 k).den E≠E.i 1
    rw[hd,v1]
    intro e3
    have e3:(L e).getD k 0=t:=by exact_mod_cast e3
    have h3:(L e)[k]? = some t:=by
     rw[List.getD_eq_getElem?_getD,List.getElem?_eq_getElem hk]at e3
     rw[List.getElem?_eq_getElem hk]
     exact congrArg some e3
    have h4:(L e)[a.length]? = some t:=by
     rw[hab,List.getElem?_append_right (Nat.le_refl _)];simp
    have:=(List.getElem?_eq_some_iff.1 h3)
    obtain⟨p1,q1⟩:=List.getElem?_eq_some_iff.1 h3
    obtain⟨p2,q2⟩:=List.getElem?_eq_some_iff.1 h4
    rcases Nat.lt_or_gt_of_ne e2 with hl | hl
    ·exact List.pairwise_iff_getElem.1 hnd k a.length p1 p2 hl (q1.trans q2.symm)
    ·exact List.pairwise_iff_getElem.1 hnd a.length k p2 p1 hl (q2.trans q1.symm)
theorem ztk (hT:T4 t) (hr:RightAt f t) (h:(za f t).st=0\/(za f t).st=1):zJ PP cR 26 [.int .i64 t] f (.tuple #[]) f:=by
 obtain⟨vs,hvs⟩:∃ vs,vs=vsL t (za f t) (zp f t) 0 (za f t) (zp f t) (za f t) (zp f t):=⟨_,rfl⟩
 have tl1:TlB vs 100 (za f t) (zp f t):=by rw[hvs];exact tlL1
 have a1:∀ E,AgV E vs->∀ ρ,vt.γ E ρ=.int .i64 t:=zaE (by omega) (by omega) (by rw[hvs];rfl)
 refine zbs yB (l:=[vt]) (v:=.tup []) zqc rfl (by simp) (vs:=vs) (zaJ yB hT hr a1 tl1 (z7 _)) (fun E hE=>?_) (fun E hE ρ=>jQ (a1 E hE ρ)) (fun E hE ρ=>rfl)
 have g100:E.i 100=(za f t).st:=z4 tl1 hE (j:=0) (by omega)
 exact⟨j7 (by show E.i 100≠2;omega),j7 (by show E.i 100≠3;omega),trivial⟩
end Go.Ev.X
end
