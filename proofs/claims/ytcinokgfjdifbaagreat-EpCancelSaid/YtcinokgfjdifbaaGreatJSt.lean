import Derived.Test.YtcinokgfjdifbaaGreatJR
set_option linter.unusedSimpArgs false
set_option linter.unusedVariables false
set_option maxRecDepth 100000
noncomputable section
namespace Go.Ev.X
open Go Go.Ev Go.Proofs
variable {E:Env} {f g:Nat->Int} {t e:Nat} {L:Nat->List Nat} {Q:Nat->List Nat} {P:Nat->TV} {c:Nat} {S:Nat->Int}
theorem zrh {l:List Nat} {t i:Nat} (h:i<l.length):(l ++ [t]).getD i 0=l.getD i 0:=by
 rw[List.getD_eq_getElem?_getD,List.getD_eq_getElem?_getD,List.getElem?_append_left h]
theorem zrg {l:List Nat} {t:Nat}:(l ++ [t]).getD l.length 0=t:=by
 rw[List.getD_eq_getElem?_getD,List.getElem?_append_right (Nat.le_refl _)];simp
set_option maxHeartbeats 2000000 in
theorem join_r (h:EInv T4 EpA f Q P c L S) (ht:Fre T4 EpA L t) (he:EpA e) {s:Nat} (hs:s=1\/s=2) (hL:L e=[]\/S e=s):zK PP cR 58 [.int .i64 e,.int .i64 t,.int .i64 ((s:Int)+1)] f (.tuple #[]) (zaf f e t s):=by
 obtain⟨w1,w2,w3,w4,w5⟩:=jM z7 h he
 have hT:=ht.1
 have hrt:=j7 h hT
 have hlo:=z7.lo t hT
 have hhi:=z7.hi t hT
 have hel:=zfs.lo e he
 have hnt:t∉L e:=fun hm=>ht.2 ⟨e,he,hm⟩
 have hb:=zjp (zh hrt) hel.2 (s:=s) (by omega)
 have hlT:∀ u∈L e,T4 u:=fun u hu=>(h.w e u he hu).1
 have hl0:∀ u∈L e,u≠0:=fun u hu=>by have:=zak z7 h he u hu;omega
 have ap:∀ u,T4 u->u≠t->zbh t u:=fun u hu hne=>zp7 hT hu (Ne.symm hne)
 obtain⟨g1,hg1⟩:∃ g1,g1=zg f t (blkV (za f t) e s):=⟨_,rfl⟩
 have hr1:∀ u,T4 u->RightAt g1 u:=fun u hu=>by
  rw[hg1]
  by_cases e2:u=t
  ·rw[e2];exact yZ hb
  ·exact yi (ap u hu e2) (j7 h hu)
 have hlk1:Lk g1 0 (L e) 0:=by
  rw[hg1]
  exact zh0 z7 hT (fun u hu=>⟨hlT u hu,fun e2=>hnt (e2 ▸ hu)⟩) (h.lk e he)
 have he1:g1 e=f e:=by
  rw[hg1]
  exact ze _ _ (zfs.ap e t he hT)
 have hl2T:∀ u∈L e ++ [t],T4 u:=fun u hu=>by
  rcases List.mem_append.1 hu with h1 | h1
  ·exact hlT u h1
  ·have:u=t:=by simpa using h1
   rw[this];exact hT
 have hn4:(L e).length<=3:=by
  have:=len4 (l:=L e ++ [t]) (List.nodup_append.2 ⟨h.nd e he,by simp,fun x hx y hy e2=>by
   have:y=t:=by simpa using hy
   rw[e2,this]at hx;exact hnt hx⟩) hl2T
  simp at this
  omega
 have hl2:(L e ++ [t]).length=(L e).length+1:=by simp
 obtain⟨vs,hvs⟩:∃ vs,vs=vsD t e (f e) (za f t) (zp f t) g1 (L e) (zfj g1 (L e ++ [t])) (L e ++ [t]):=⟨_,rfl⟩
 have tl1:TlB vs 100 (za f t) (zp f t):=by rw[hvs];exact vsD_1
 have at':∀ E,AgV E vs->∀ ρ,vt.γ E ρ=.int .i64 t:=zaJ (by omega) (by omega) (by rw[hvs];rfl)
 have ae:∀ E,AgV E vs->∀ ρ,ve.γ E ρ=.int .i64 e:=zaJ (by omega) (by omega) (by rw[hvs];rfl)
 have v200:vs 200=stQ (f e):=by rw[hvs];rfl
 have v201:vs 201=hdQ (f e):=by rw[hvs];rfl
 have v202:vs 202=tlQ (f e):=by rw[hvs];rfl
 have lv:LsV vs 201 g1 (L e):=⟨by omega,by rw[v201,w2],fun i hi=>by rw[hvs];exact vsD_10 (by omega)⟩
 have hσ:∀ i,i<(L e ++ [t]).length->∀ E,AgV E vs->∀ ρ,(sgJ (L e).length i).γ E ρ=.int .i64 ((L e ++ [t]).getD i 0:Nat):=fun i hi E hE ρ=>by
  unfold sgJ
  by_cases e2:i<(L e).length
  ·rw[show Nat.blt i (L e).length=true by rw[Nat.blt_eq];exact e2,zrh e2]
   exact vsi (zb3 lv hlk1 hE e2)
  ·have:i=(L e).length:=by omega
   subst this
   rw[show Nat.blt (L e).length (L e).length=false by rw[Bool.eq_false_iff,ne_eq,Nat.blt_eq];omega,zrg]
   exact at' E hE ρ
 have chl:=zjy yE lv hlk1 hlT (fun u hu=>hr1 u (hlT u hu)) (L e).length 0 (by omega)
 have chk:=lk_ch (g:=g1) (σ:=sgJ (L e).length) hl2T hr1 hσ (fun i hi=>by rw[hvs];exact vsD_20 (by omega)) (L e ++ [t]).length 0 (by omega)
 rw[lnkI_n,lnkI_0,hl2]at chk
 have fin:=zt7 z7 zfs h ht he (s:=s) (by omega)
 rw[<- hg1]at fin
 have zr:∀ n,n<4->runJR s n=0:=fun n hn=>by
  have:=zu zmp s (j5 (by omega) (by omega))
  simp only[Bool.and_eq_true]at this
  exact Nat.eq_of_beq_eq_true (rng_ok this.2 n hn)
 have hd0:(L e ++ [t]).getD 0 0=hdN (L e ++ [t]) 0:=(zfq _).symm
 have hdl:0<hdN (L e ++ [t]) 0/\hdN (L e ++ [t]) 0<65536:=by
  have:=z7.lo _ (hl2T _ (zw (l:=L e ++ [t]) (n:=0) (by simp)))
  have:=z7.hi _ (hl2T _ (zw (l:=L e ++ [t]) (n:=0) (by simp)))
  omega
 rw[<- fin]
 refine zbv yE (sh:=shJR s (L e).length) (fs:=fsJR s (L e).length) (l:=[ve,vt,zfJ s]) (v:=.tup []) (zr _ (by omega)) rfl (by simp[shJR]) (vs:=vs)
  (zbO yE he (zb8 h he) ae (by omega) v200 v201 v202 (zaH yE hT hrt at' tl1 (zdS yE hT hb (zbr f) at' (fun E hE ρ=>?_) ?_))) (fun E hE=>?_) (fun E hE ρ=>zbH (ae E hE ρ) (at' E hE ρ) zeA) (fun E hE ρ=>rfl)
 ·exact zdl (w:=blkV (za f t) e s) tl1 hE zeA (vsb (sbq (z3 tl1 hE (j:=3) (by omega)))) (vsi (z3 tl1 hE (j:=4) (by omega))) (vsi (z3 tl1 hE (j:=5) (by omega))) (ae E hE ρ) (vsi (z3 tl1 hE (j:=7) (by omega))) (vsb (sbq (z3 tl1 hE (j:=8) (by omega)))) (vsb (sbq (z3 tl1 hE (j:=9) (by omega)))) (vsi (z3 tl1 hE (j:=12) (by omega))) rfl rfl rfl rfl rfl
 ·rw[<- hg1]
  refine zbO yE he (by rw[he1];exact zb8 h he) ae (by omega) (by rw[he1];exact v200) (by rw[he1];exact v201) (by rw[he1];exact v202) (zaP chl (zaP chk ?_))
  exact zjU yE he (x:=(s:Nat)) (y:=(hdN (L e ++ [t]) 0:Nat)) (z:=(t:Nat)) (zfQ hs hdl (by omega)) ae vlit (fun E hE ρ=>by rw[hσ 0 (by omega) E hE ρ,hd0]) at' (zQ _)
 ·refine jR ?_ (zfh lv hlk1 hl0 hE)
  have g200:E.i 200=stQ (f e):=(hE 200 (by omega) (by omega)).trans v200
  by_cases e2:L e=[]
  ·rw[e2]
   refine⟨yD ?_,trivial⟩
   rw[if_pos e2]at w1
   show E.i 200=0
   rw[g200];exact w1
  ·have hne:(L e).length≠0:=fun e3=>e2 (List.length_eq_zero_iff.1 e3)
   rw[if_neg e2]at w1
   have hSe:S e=s:=hL.resolve_left e2
   rw[show Nat.beq (L e).length 0=false by rw[Bool.eq_false_iff];simpa using e2]
   refine⟨zaq ?_,yD ?_,trivial⟩
   ·show E.i 200≠0
    omega
   ·show E.i 200=(s:Nat)
    omega
theorem joinN_r (h:EInv T4 EpA f Q P c L S) (he:EpA e) {s:Nat} (hs:s=1\/s=2) (hL:L e≠[]) (hS:S e≠s):zK PP cR 58 [.int .i64 e,.int .i64 t,.int .i64 ((s:Int)+1)] f (.tuple #[]) f:=by
 obtain⟨w1,w2,w3,w4,w5⟩:=jM z7 h he
 rw[if_neg hL]at w1
 have hSe:=h.s e he
 have zr:runJRn s=0:=by
  have:=zu zmp s (j5 (by omega) (by omega))
  simp only[Bool.and_eq_true,Nat.beq_eq]at this
  exact this.1
 refine zbv yE (l:=[ve,vt,zfJ s]) (v:=.tup []) zr rfl (by simp) (vs:=vsD t e (f e) (za f t) (zp f t) f [] (fun _=>f) [])
  (zbO yE he (zb8 h he) (zaJ (by omega) (by omega) rfl) (by omega) rfl rfl rfl (zQ _)) (fun E hE=>⟨zaq ?_,zaq ?_,trivial⟩) (fun E hE ρ=>zbH (zaJ (by omega) (by omega) rfl E hE ρ) (zaJ (by omega) (by omega) rfl E hE ρ) zeA) (fun E hE ρ=>rfl)
 ·show E.i 200≠0
  rw[hE 200 (by omega) (by omega)]
  show stQ (f e)≠0
  omega
 ·show E.i 200≠(s:Nat)
  rw[hE 200 (by omega) (by omega)]
  show stQ (f e)≠_
  omega
end Go.Ev.X
end
set_option linter.unusedSimpArgs false
set_option linter.unusedVariables false
set_option maxRecDepth 100000
noncomputable section
namespace Go.Ev.X
open Go Go.Ev Go.Proofs
variable {E:Env} {f g:Nat->Int} {t e:Nat} {L:Nat->List Nat} {Q:Nat->List Nat} {P:Nat->TV} {c:Nat} {S:Nat->Int}
theorem zuj {a b:List Nat} {t i:Nat}:(a ++ t::b).getD (if i<a.length then i else i+1) 0=(a ++ b).getD i 0:=by
 rw[List.getD_eq_getElem?_getD,List.getD_eq_getElem?_getD]
 by_cases h:i<a.length
 ·rw[if_pos h,List.getElem?_append_left h,List.getElem?_append_left h]
 ·rw[if_neg h,List.getElem?_append_right (by omega),List.getElem?_append_right (by omega),show i+1 - a.length=(i - a.length)+1 from by omega]
  rfl
theorem getD_t {a b:List Nat} {t:Nat}:(a ++ t::b).getD a.length 0=t:=by
 rw[List.getD_eq_getElem?_getD,List.getElem?_append_right (Nat.le_refl _)];simp
set_option maxHeartbeats 2000000 in
theorem zpA (h:EInv T4 EpA f Q P c L S) (he:EpA e) {a b:List Nat} (hab:L e=a ++ t::b):zK PP cR 26 [.int .i64 t] f (.tuple #[]) (yY f e t):=by
 have htm:t∈L e:=by rw[hab];simp
 obtain⟨hT,hrt,hct,hqt,hbl,hst⟩:=h.w e t he htm
 obtain⟨w1,w2,w3,w4,w5⟩:=jM z7 h he
 rw[if_neg (by rw[hab];simp)]at w1
 have hSe:=h.s e he
 have hbl':(za f t).bl=(e:Int):=by rw[<- hbl,<- hct];rfl
 have hst':(za f t).st=S e+1:=by rw[<- hst,<- hct];rfl
 have hlT:∀ u∈L e,T4 u:=fun u hu=>(h.w e u he hu).1
 have hlr:∀ u∈L e,RightAt f u:=fun u hu=>(h.w e u he hu).2.1
 have hl0:∀ u∈L e,u≠0:=fun u hu=>by have:=zak z7 h he u hu;omega
 have hnd:=h.nd e he
 have hn4:=len4 hnd hlT
 have hlk:=h.lk e he
 have hab':∀ u∈a ++ b,u∈L e:=fun u hu=>by
  rw[hab]
  rcases List.mem_append.1 hu with h1 | h1
  ·simp[h1]
  ·simp[h1]
 have hl2T:∀ u∈a ++ b,T4 u:=fun u hu=>hlT u (hab' u hu)
 have hlen:(L e).length=(a ++ b).length+1:=by rw[hab];simp;omega
 have hpa:a.length<(L e).length:=by rw[hab];simp
 have hlv:=zdA (zh hrt)
 obtain⟨g0,hg0⟩:∃ g0,g0=zg f t (zbt (za f t)):=⟨_,rfl⟩
 have hr0:∀ u,T4 u->RightAt g0 u:=fun u hu=>by
  rw[hg0]
  by_cases e2:u=t
  ·rw[e2];exact yZ hlv
  ·exact yi (zp7 hT hu (Ne.symm e2)) (j7 h hu)
 obtain⟨vs,hvs⟩:∃ vs,vs=vsD t e (f e) (za f t) (zp f t) f (L e) (zfj g0 (a ++ b)) (a ++ b):=⟨_,rfl⟩
 have tl1:TlB vs 100 (za f t) (zp f t):=by rw[hvs];exact vsD_1
 have at':∀ E,AgV E vs->∀ ρ,vt.γ E ρ=.int .i64 t:=zaJ (by omega) (by omega) (by rw[hvs];rfl)
 have a106:∀ E,AgV E vs->∀ ρ,(sv 106).γ E ρ=.int .i64 e:=zaJ (by omega) (by omega) ((tl1.2.2 6 (by omega)).trans hbl')
 have v200:vs 200=stQ (f e):=by rw[hvs];rfl
 have v201:vs 201=hdQ (f e):=by rw[hvs];rfl
 have v202:vs 202=tlQ (f e):=by rw[hvs];rfl
 have lv:LsV vs 201 f (L e):=⟨by omega,by rw[v201,w2],fun i hi=>by rw[hvs];exact vsD_10 (by omega)⟩
 have hidx:∀ i,(bif Nat.blt i a.length then i else i+1)=if i<a.length then i else i+1:=fun i=>by
  by_cases e2:i<a.length
  ·rw[show Nat.blt i a.length=true by rw[Nat.blt_eq];exact e2,if_pos e2];rfl
  ·rw[show Nat.blt i a.length=false by rw[Bool.eq_false_iff,ne_eq,Nat.blt_eq];exact e2,if_neg e2];rfl
 have hσ:∀ i,i<(a ++ b).length->∀ E,AgV E vs->∀ ρ,(sgL' a.length i).γ E ρ=.int .i64 ((a ++ b).getD i 0:Nat):=fun i hi E hE ρ=>by
  unfold sgL'
  rw[hidx i,<- zuj (t:=t),<- hab]
  exact vsi (zb3 lv hlk hE (by split <;> omega))
 have chl:=zjy yE lv hlk hlT hlr (L e).length 0 (by omega)
 have chk:=lk_ch (g:=g0) (σ:=sgL' a.length) hl2T hr0 hσ (fun i hi=>by rw[hvs];exact vsD_20 (by omega)) (a ++ b).length 0 (by omega)
 rw[lnkI_n,lnkI_0]at chk
 have hpr:Nat.pred (L e).length=(a ++ b).length:=by rw[hlen];rfl
 have fin:=zqO z7 zfs h he hab
 rw[<- hg0]at fin
 obtain⟨sn,hsn,hs12⟩:∃ sn:Nat,S e=sn/\(sn=1\/sn=2):=by
  rcases hSe with h1 | h1
  ·exact⟨1,h1,.inl rfl⟩
  ·exact⟨2,h1,.inr rfl⟩
 have zr:runLR sn (L e).length a.length=0:=Nat.eq_of_beq_eq_true (rng_ok (zu (zu zsH sn (j5 (by omega) (by omega))) (L e).length (j5 (by omega) (by omega))) a.length hpa)
 rw[<- fin]
 refine zbv yE (sh:=shLR (L e).length a.length) (fs:=fsLR sn (L e).length a.length) (l:=[vt]) (v:=.tup []) zr rfl (by simp[shLR]) (vs:=vs)
  (zaH yE hT hrt at' tl1 (zbO yE he (zb8 h he) a106 (by omega) v200 v201 v202 (zbO yE he (zb8 h he) a106 (by omega) v200 v201 v202 (zaP chl (zdS yE hT hlv (zbr f) at' (fun E hE ρ=>clr_ok tl1 hE ρ) ?_))))) (fun E hE=>?_) (fun E hE ρ=>jV (at' E hE ρ)) (fun E hE ρ=>rfl)
 ·rw[<- hg0,hpr]
  refine zaP chk ?_
  by_cases e1:(L e).length=1
  ·have hnil:a ++ b=[]:=List.length_eq_zero_iff.1 (by omega)
   rw[show Nat.beq (L e).length 1=true by simpa using e1,hnil]
   exact zjU yE he (x:=0) (y:=0) (z:=0) (.inl ⟨rfl,rfl,rfl⟩) a106 (fun E hE ρ=>rfl) (fun E hE ρ=>rfl) (fun E hE ρ=>rfl) (zQ _)
  ·have hne:a ++ b≠[]:=fun e2=>e1 (by rw[hlen,e2];rfl)
   rw[show Nat.beq (L e).length 1=false by rw[Bool.eq_false_iff];simpa using e1]
   have hw:zdj (a ++ b) (S e)=qwV (S e) (hdN (a ++ b) 0:Nat) (laN (a ++ b) 0:Nat):=by
    cases hl:a ++ b with
    | nil=>exact absurd hl hne
    | cons x r=>rfl
   rw[hw]
   have h1:=zak z7 h he _ (hab' _ (zw (n:=0) hne))
   have h2:=zak z7 h he _ (hab' _ (zv (p:=0) hne))
   refine zjU yE he (x:=S e) (y:=(hdN (a ++ b) 0:Nat)) (z:=(laN (a ++ b) 0:Nat)) (.inr ⟨hSe,by omega,by omega⟩) a106 (zaJ (by omega) (by omega) (by rw[v200,w1])) (fun E hE ρ=>?_) (fun E hE ρ=>?_) (zQ _)
   ·rw[zfq];exact hσ 0 (by omega) E hE ρ
   ·rw[zt0 hne]
    exact hσ ((a ++ b).length - 1) (by omega) E hE ρ
 ·have g100:E.i 100=S e+1:=(z3 tl1 hE (j:=0) (by omega)).trans hst'
  refine jR ?_ (jR (zfh lv hlk hl0 hE) (zfr _ _ fun k h1 h2=>?_))
  ·rcases hs12 with rfl | rfl
   ·exact⟨yD (by show E.i 100=2;omega),trivial⟩
   ·exact⟨zaq (by show E.i 100≠2;omega),yD (by show E.i 100=3;omega),trivial⟩
  ·have hk:k<(L e).length:=by omega
   have hd:=zb3 lv hlk hE hk
   have v1:E.i 1=(t:Int):=(hE 1 (by omega) (by omega)).trans (by rw[hvs];rfl)
   by_cases e2:k=a.length
   ·show (SB.cmp .neq (symE 201 k) (.v 1)).den E = !Nat.beq k a.length
    rw[show Nat.beq k a.length=true by simpa using e2]
    refine yD ?_
    rw[hd,e2,hab,getD_t];exact v1.symm
   ·show (SB.cmp .neq (symE 201 k) (.v 1)).den E = !Nat.beq k a.length
    rw[show Nat.beq k a.length=false by rw[Bool.eq_false_iff];simpa using e2]
    refine zaq ?_
    show (symE 201 k).den E≠E.i 1
    rw[hd,v1]
    intro e3
    have e3:(L e).getD k 0=t:=by exact_mod_cast e3
    have h3:(L e)[k]? = some t:=by
     rw[List.getD_eq_getElem?_getD,List.getElem?_eq_getElem hk]at e3
     rw[List.getElem?_eq_getElem hk]
     exact congrArg some e3
    have h4:(L e)[a.length]? = some t:=by
     rw[hab,List.getElem?_append_right (Nat.le_refl _)];simp
    have:=(List.getElem?_eq_some_iff.1 h3)
    obtain⟨p1,q1⟩:=List.getElem?_eq_some_iff.1 h3
    obtain⟨p2,q2⟩:=List.getElem?_eq_some_iff.1 h4
    rcases Nat.lt_or_gt_of_ne e2 with hl | hl
    ·exact List.pairwise_iff_getElem.1 hnd k a.length p1 p2 hl (q1.trans q2.symm)
    ·exact List.pairwise_iff_getElem.1 hnd a.length k p2 p1 hl (q2.trans q1.symm)
theorem ztU (hT:T4 t) (hr:RightAt f t) (h:(za f t).st=0\/(za f t).st=1):zK PP cR 26 [.int .i64 t] f (.tuple #[]) f:=by
 obtain⟨vs,hvs⟩:∃ vs,vs=vsL t (za f t) (zp f t) 0 (za f t) (zp f t) (za f t) (zp f t):=⟨_,rfl⟩
 have tl1:TlB vs 100 (za f t) (zp f t):=by rw[hvs];exact tlL1
 have a1:∀ E,AgV E vs->∀ ρ,vt.γ E ρ=.int .i64 t:=zaJ (by omega) (by omega) (by rw[hvs];rfl)
 refine zbv yE (l:=[vt]) (v:=.tup []) zqz rfl (by simp) (vs:=vs) (zaH yE hT hr a1 tl1 (zQ _)) (fun E hE=>?_) (fun E hE ρ=>jV (a1 E hE ρ)) (fun E hE ρ=>rfl)
 have g100:E.i 100=(za f t).st:=z3 tl1 hE (j:=0) (by omega)
 exact⟨zaq (by show E.i 100≠2;omega),zaq (by show E.i 100≠3;omega),trivial⟩
end Go.Ev.X
end
