import Derived.Test.YtcinokgfjdifbaaGreatJL
import Derived.Test.YtcinokgfjdifbaaGreatE7
set_option linter.unusedSimpArgs false
set_option linter.unusedVariables false
set_option maxRecDepth 100000
noncomputable section
namespace Go.Ev.X
open Go Go.Ev Go.Proofs
def symE (h:Nat):Nat->SE
 | 0=>.v h
 | i+1=>.v (1005+40*i)
def elE (h i:Nat):V:=.si .i64 (symE h i)
def lsT (F h n i:Nat):Sh:=⟨F,[elE h i],.tup [tX (1000+40*i) (sv (1000+40*i)) (tv (1003+40*i)) (sv (1004+40*i)) (bif Nat.beq (i+1) n then z0 else sv (1005+40*i)) (sv (1006+40*i)) (sv (1007+40*i)) (tv (1008+40*i)) (tv (1009+40*i)) (sv (1012+40*i)),z0]⟩
def lsS (F h n:Nat):List Sh:=(rng n).map (lsT F h n)
def lsF (h n:Nat):List (SB × Bool):=(rng n).map (fun i=>(.cmp .neq (symE h i) (.lit 0),true))
def lsF0 (h n:Nat):List (SB × Bool):=bif Nat.beq n 0 then [(.cmp .neq (.v h) (.lit 0),false)] else lsF h n
def lkA (σ:Nat->V) (n i:Nat):V:=tX (2000+40*i) (sv (2000+40*i)) (tv (2003+40*i)) (bif Nat.beq i 0 then z0 else σ (Nat.pred i)) (bif Nat.beq (i+1) n then z0 else σ (i+1)) (sv (2006+40*i)) (sv (2007+40*i)) (tv (2008+40*i)) (tv (2009+40*i)) (sv (2012+40*i))
def lkS (σ:Nat->V) (n:Nat):Nat->Nat->List Sh
 | _,0=>[]
 | i,m+1=>rdT 62 (σ i) (2000+40*i)::zey 83 (σ i) (lkA σ n i)::lkS σ n (i+1) m
def sgJ (n i:Nat):V:=bif Nat.blt i n then elE 201 i else vt
def shJR (s n:Nat):List Sh:=zcr 81 ve 200::rdT 62 vt 100::zey 83 vt (tX 100 (zfp s) (tv 103) (sv 104) (sv 105) ve (sv 107) (tv 108) (tv 109) (sv 112))::zcr 81 ve 200::(lsS 62 201 n ++ (lkS (sgJ n) (n+1) 0 (n+1) ++ [wrQS 127 ve (.i .i64 (.ofNat s)) (sgJ n 0) vt]))
def fsJR (s n:Nat):List (SB × Bool):=(bif Nat.beq n 0 then [(.cmp .neq (.v 200) (.lit 0),false)] else [(.cmp .neq (.v 200) (.lit 0),true),(.cmp .neq (.v 200) (.lit (.ofNat s)),false)]) ++ lsF0 201 n
def runJR (s n:Nat):Nat:=zea cx0 cR (shJR s n) [] 58 [ve,vt,zfp s] (fsJR s n) (.tup [])
def runJRn (s:Nat):Nat:=zea cx0 cR [zcr 81 ve 200] [] 58 [ve,vt,zfp s] [(.cmp .neq (.v 200) (.lit 0),true),(.cmp .neq (.v 200) (.lit (.ofNat s)),true)] (.tup [])
def sgL' (p i:Nat):V:=elE 201 (bif Nat.blt i p then i else i+1)
def shLR (n p:Nat):List Sh:=rdT 62 vt 100::zcr 81 (sv 106) 200::zcr 81 (sv 106) 200::(lsS 62 201 n ++ (zey 83 vt (clr 100)::(lkS (sgL' p) (Nat.pred n) 0 (Nat.pred n) ++ [bif Nat.beq n 1 then wrQS 127 (sv 106) z0 z0 z0 else wrQS 127 (sv 106) (sv 200) (sgL' p 0) (sgL' p (Nat.pred (Nat.pred n)))])))
def fsSR (s:Nat):List (SB × Bool):=match s with
 | 1=>[(.cmp .neq (.v 100) (.lit 2),false)]
 | _=>[(.cmp .neq (.v 100) (.lit 2),true),(.cmp .neq (.v 100) (.lit 3),false)]
def fsW' (p n:Nat):List (SB × Bool):=(rng n).map (fun i=>(.cmp .neq (symE 201 i) (.v 1),!Nat.beq i p))
def fsLR (s n p:Nat):List (SB × Bool):=fsSR s ++ (lsF0 201 n ++ fsW' p n)
def runLR (s n p:Nat):Nat:=zea cx0 cR (shLR n p) [] 26 [vt] (fsLR s n p) (.tup [])
def runLRn:Nat:=zea cx0 cR [rdT 62 vt 100] [] 26 [vt] [(.cmp .neq (.v 100) (.lit 2),true),(.cmp .neq (.v 100) (.lit 3),true)] (.tup [])
theorem zl1:zW (fun s=>Nat.beq (runJRn s) 0 && zW (fun n=>Nat.beq (runJR s n) 0) (rng 4)) (zb1 1 2)=true:=by decide +kernel
theorem zsc:zW (fun s=>zW (fun n=>zW (fun p=>Nat.beq (runLR s n p) 0) (rng n)) (zb1 1 4)) (zb1 1 2)=true:=by decide +kernel
theorem zqc:runLRn=0:=by decide +kernel
variable {E:Env} {f g:Nat->Int} {t e:Nat} {L:Nat->List Nat} {Q:Nat->List Nat} {P:Nat->TV} {c:Nat} {S:Nat->Int} {vs:Nat->Int} {l:List Nat} {h:Nat} {s:Sd}
theorem zms:∀ {l:List Nat} {p i:Nat},Lk f p l 0->i<l.length->(za f (l.getD i 0)).nx=(l.getD (i+1) 0:Nat)
 | [],p,i,h,hi=>by simp at hi
 | t::r,p,0,h,hi=>by
  obtain⟨_,h2,_⟩:=h
  show (za f t).nx=_
  rw[h2]
  cases r <;> rfl
 | t::r,p,i+1,h,hi=>by
  have:=zms (i:=i) h.2.2 (by simpa using hi)
  simpa using this
theorem zn9:∀ {S L:List Nat},L.Nodup->(∀ x∈L,x∈S)->L.length<=S.length
 | [],L,hn,h=>by
  cases L with
  | nil=>simp
  | cons a r=>exact absurd (h a (by simp)) (by simp)
 | s::S,L,hn,h=>by
  by_cases hs:s∈L
  ·obtain⟨a,b,rfl⟩:=List.append_of_mem hs
   obtain⟨na,nb,nab⟩:=List.nodup_append.1 hn
   have nb':=List.nodup_cons.1 nb
   have hab:(a ++ b).Nodup:=List.nodup_append.2 ⟨na,nb'.2,fun x hx y hy=>nab x hx y (by simp[hy])⟩
   have:=zn9 (S:=S) hab fun x hx=>by
    have hx':x∈a ++ s::b:=by
     rcases List.mem_append.1 hx with h1 | h1
     ·simp[h1]
     ·simp[h1]
    rcases List.mem_cons.1 (h x hx') with rfl | h2
    ·rcases List.mem_append.1 hx with h1 | h1
     ·exact absurd rfl (nab x h1 x (by simp))
     ·exact absurd h1 nb'.1
    ·exact h2
   simp at this ⊢;omega
  ·have:=zn9 (S:=S) hn fun x hx=>by
    rcases List.mem_cons.1 (h x hx) with rfl | h2
    ·exact absurd hx hs
    ·exact h2
   simp;omega
theorem len4 {l:List Nat} (hn:l.Nodup) (h:∀ x∈l,T4 x):l.length<=4:=zn9 (S:=zjT) hn fun x hx=>zdL (h x hx)
theorem zbC {l:List Nat} {i:Nat} (hi:i<l.length):l.getD i 0∈l:=by
 rw[List.getD_eq_getElem?_getD,List.getElem?_eq_getElem hi]
 exact List.getElem_mem _
theorem ze7:∀ (l:List Nat),hdN l 0=l.getD 0 0
 | []=>rfl
 | _::_=>rfl
theorem ztp {l:List Nat} (h:l≠[]):laN l 0=l.getD (l.length - 1) 0:=by
 have hl:l.length≠0:=fun e=>h (List.length_eq_zero_iff.1 e)
 have:=zmv (l:=l) (i:=l.length) (Nat.le_refl _)
 rw[List.take_length,if_neg hl]at this
 exact this
structure LsV (vs:Nat->Int) (h:Nat) (g:Nat->Int) (l:List Nat):Prop where
 h9:h<9000/\h≠5
 h:vs h=(hdN l 0:Nat)
 t:∀ i,i<l.length->TlB vs (1000+40*i) (za g (l.getD i 0)) (zp g (l.getD i 0))
theorem zbX (hv:LsV vs h g l) (hk:Lk g 0 l 0) (hE:AgV E vs):∀ {i:Nat},i<l.length->(symE h i).den E=(l.getD i 0:Nat)
 | 0,hi=>((hE h hv.h9.1 hv.h9.2).trans hv.h).trans (by rw[ze7])
 | i+1,hi=>by
  have:=z4 (hv.t i (by omega)) hE (j:=5) (by omega)
  show E.i (1005+40*i)=_
  rw[show 1005+40*i=1000+40*i+5 from by omega,this]
  exact zms hk (by omega)
theorem zjb (hs:SdOk s) (hv:LsV vs h g l) (hk:Lk g 0 l 0) (hT:∀ u∈l,T4 u) (hr:∀ u∈l,RightAt g u):∀ (m i:Nat),i+m=l.length->Chn s.c vs ((zb1 i m).map (lsT s.rt h l.length)) g g
 | 0,i,_=>z7 g
 | m+1,i,hi=>by
  have hm:=zbC (l:=l) (i:=i) (by omega)
  have tl:=hv.t i (by omega)
  refine zan (hs.rt (hT _ hm) (hr _ hm)) (fun E hE ρ=>jQ (vsi (zbX hv hk hE (by omega)))) (fun E hE ρ=>yD ?_) (zjb hs hv hk hT hr m (i+1) (by omega))
  refine zc7 (w:=za g (l.getD i 0)) tl hE (vsi (z4 tl hE (j:=0) (by omega))) ?_ ?_ ?_ ?_ ?_ ?_ ?_ ?_ rfl rfl rfl rfl rfl
  ·exact vsb (sbq ((congrArg E.i (by omega:1003+40*i=1000+40*i+3)).trans (z4 tl hE (j:=3) (by omega))))
  ·exact vsi ((congrArg E.i (by omega:1004+40*i=1000+40*i+4)).trans (z4 tl hE (j:=4) (by omega)))
  ·have hn:=zms hk (i:=i) (by omega)
   by_cases e:i+1=l.length
   ·rw[show Nat.beq (i+1) l.length=true by simpa using e,hn,List.getD_eq_getElem?_getD,List.getElem?_eq_none (by omega)];rfl
   ·rw[show Nat.beq (i+1) l.length=false by rw[Bool.eq_false_iff];simpa using e]
    exact vsi ((congrArg E.i (by omega:1005+40*i=1000+40*i+5)).trans (z4 tl hE (j:=5) (by omega)))
  ·exact vsi ((congrArg E.i (by omega:1006+40*i=1000+40*i+6)).trans (z4 tl hE (j:=6) (by omega)))
  ·exact vsi ((congrArg E.i (by omega:1007+40*i=1000+40*i+7)).trans (z4 tl hE (j:=7) (by omega)))
  ·exact vsb (sbq ((congrArg E.i (by omega:1008+40*i=1000+40*i+8)).trans (z4 tl hE (j:=8) (by omega))))
  ·exact vsb (sbq ((congrArg E.i (by omega:1009+40*i=1000+40*i+9)).trans (z4 tl hE (j:=9) (by omega))))
  ·exact vsi ((congrArg E.i (by omega:1012+40*i=1000+40*i+12)).trans (z4 tl hE (j:=12) (by omega)))
theorem zgD {q:Nat->SB × Bool}:∀ (m i:Nat),(∀ k,i<=k->k<i+m->(q k).1.den E=(q k).2)->j8 E ((zb1 i m).map q)
 | 0,i,h=>trivial
 | m+1,i,h=>⟨h i (by omega) (by omega),zgD m (i+1) fun k h1 h2=>h k (by omega) (by omega)⟩
theorem jS:∀ {l m:List (SB × Bool)},j8 E l->j8 E m->j8 E (l ++ m)
 | [],m,_,h2=>h2
 | (c,b)::r,m,h1,h2=>⟨h1.1,jS h1.2 h2⟩
theorem zeY (hv:LsV vs h g l) (hk:Lk g 0 l 0) (h0:∀ u∈l,u≠0) (hE:AgV E vs):j8 E (lsF0 h l.length):=by
 by_cases e:l.length=0
 ·rw[e]
  refine⟨yu ?_,trivial⟩
  have:l=[]:=List.length_eq_zero_iff.1 e
  show E.i h=0
  rw[hE h hv.h9.1 hv.h9.2,hv.h,this];rfl
 ·unfold lsF0
  rw[show Nat.beq l.length 0=false by rw[Bool.eq_false_iff];simpa using e]
  refine zgD _ _ fun k h1 h2=>j7 ?_
  rw[zbX hv hk hE (by omega)]
  have:=h0 _ (zbC (l:=l) (i:=k) (by omega))
  show ((l.getD k 0:Nat):Int)≠0
  omega
theorem lk_ch {σ:Nat->V} (hT:∀ u∈l,T4 u) (hr:∀ u,T4 u->RightAt g u) (hσ:∀ i,i<l.length->∀ E,AgV E vs->∀ ρ,(σ i).γ E ρ=.int .i64 (l.getD i 0:Nat)) (tl:∀ i,i<l.length->TlB vs (2000+40*i) (za (ze0 g l i) (l.getD i 0)) (zp (ze0 g l i) (l.getD i 0))):∀ (m i:Nat),i+m=l.length->Chn cR vs (lkS σ l.length i m) (ze0 g l i) (ze0 g l l.length)
 | 0,i,hi=>by
  have:i=l.length:=by omega
  rw[this];exact z7 _
 | m+1,i,hi=>by
  have hi':i<l.length:=by omega
  have hm:=zbC hi'
  have hTi:=hT _ hm
  have hri:=zn5 z5 (l:=l) hr hT (i:=i) (by omega) _ hTi
  have hp:(if i=0 then 0 else l.getD (i - 1) 0)<65536:=by
   split
   ·decide
   ·have:=z5.hi _ (hT _ (zbC (l:=l) (i:=i - 1) (by omega)));omega
  have hn:l.getD (i+1) 0<65536:=by
   by_cases e:i+1<l.length
   ·have:=z5.hi _ (hT _ (zbC (l:=l) (i:=i+1) e));omega
   ·rw[List.getD_eq_getElem?_getD,List.getElem?_eq_none (by omega)];decide
  have next:=lk_ch hT hr hσ tl m (i+1) (by omega)
  rw[lnkI_s hi']at next
  have ti:=tl i hi'
  refine zaJ yB hTi hri (hσ i hi') ti (zdF yB hTi (zl3 (zh hri) hp hn) (zbo _) (hσ i hi') (fun E hE ρ=>?_) next)
  unfold lkA
  refine zc7 (w:={ za (ze0 g l i) (l.getD i 0) with pv:=((if i=0 then 0 else l.getD (i - 1) 0:Nat):Int),nx:=(l.getD (i+1) 0:Nat) }) ti hE (vsi (z4 ti hE (j:=0) (by omega))) ?_ ?_ ?_ ?_ ?_ ?_ ?_ ?_ rfl rfl rfl rfl rfl
  ·exact vsb (sbq ((congrArg E.i (by omega:2003+40*i=2000+40*i+3)).trans (z4 ti hE (j:=3) (by omega))))
  ·by_cases e:i=0
   ·rw[if_pos e,e];rfl
   ·rw[if_neg e,show Nat.beq i 0=false by rw[Bool.eq_false_iff];simpa using e]
    exact hσ (i - 1) (by omega) E hE ρ
  ·by_cases e:i+1=l.length
   ·have hz:l.getD (i+1) 0=0:=by rw[List.getD_eq_getElem?_getD,List.getElem?_eq_none (by omega)];rfl
    show (bif Nat.beq (i+1) l.length then z0 else σ (i+1)).γ E ρ=Value.int .i64 ((l.getD (i+1) 0:Nat):Int)
    rw[show Nat.beq (i+1) l.length=true by simpa using e,hz];rfl
   ·rw[show Nat.beq (i+1) l.length=false by rw[Bool.eq_false_iff];simpa using e]
    exact hσ (i+1) (by omega) E hE ρ
  ·exact vsi ((congrArg E.i (by omega:2006+40*i=2000+40*i+6)).trans (z4 ti hE (j:=6) (by omega)))
  ·exact vsi ((congrArg E.i (by omega:2007+40*i=2000+40*i+7)).trans (z4 ti hE (j:=7) (by omega)))
  ·exact vsb (sbq ((congrArg E.i (by omega:2008+40*i=2000+40*i+8)).trans (z4 ti hE (j:=8) (by omega))))
  ·exact vsb (sbq ((congrArg E.i (by omega:2009+40*i=2000+40*i+9)).trans (z4 ti hE (j:=9) (by omega))))
  ·exact vsi ((congrArg E.i (by omega:2012+40*i=2000+40*i+12)).trans (z4 ti hE (j:=12) (by omega)))
def vsD (t e:Nat) (w:Int) (v:TV) (r:Nat->Int) (g:Nat->Int) (l:List Nat) (G:Nat->Nat->Int) (l2:List Nat) (i:Nat):Int:=
 if i=1 then t else if i=2 then e else if i<140 then ym v r (i - 100) else if i=200 then stQ w else if i=201 then hdQ w else if i=202 then tlQ w
 else if i<1900 then ym (za g (l.getD ((i - 1000) / 40) 0)) (zp g (l.getD ((i - 1000) / 40) 0)) ((i - 1000) % 40)
 else ym (za (G ((i - 2000) / 40)) (l2.getD ((i - 2000) / 40) 0)) (zp (G ((i - 2000) / 40)) (l2.getD ((i - 2000) / 40) 0)) ((i - 2000) % 40)
variable {w:Int} {v:TV} {r:Nat->Int} {G:Nat->Nat->Int} {l2:List Nat}
theorem vsD_1:TlB (vsD t e w v r g l G l2) 100 v r:=⟨by omega,by omega,fun j hj=>by
 unfold vsD
 rw[if_neg (by omega),if_neg (by omega),if_pos (by omega),show 100+j - 100=j from by omega]⟩
theorem vsD_10 {i:Nat} (hi:i<8):TlB (vsD t e w v r g l G l2) (1000+40*i) (za g (l.getD i 0)) (zp g (l.getD i 0)):=⟨by omega,by omega,fun j hj=>by
 unfold vsD
 rw[if_neg (by omega),if_neg (by omega),if_neg (by omega),if_neg (by omega),if_neg (by omega),if_neg (by omega),if_pos (by omega),show (1000+40*i+j - 1000) / 40=i from by omega,show (1000+40*i+j - 1000) % 40=j from by omega]⟩
theorem vsD_20 {i:Nat} (hi:i<8):TlB (vsD t e w v r g l G l2) (2000+40*i) (za (G i) (l2.getD i 0)) (zp (G i) (l2.getD i 0)):=⟨by omega,by omega,fun j hj=>by
 unfold vsD
 rw[if_neg (by omega),if_neg (by omega),if_neg (by omega),if_neg (by omega),if_neg (by omega),if_neg (by omega),if_neg (by omega),show (2000+40*i+j - 2000) / 40=i from by omega,show (2000+40*i+j - 2000) % 40=j from by omega]⟩
end Go.Ev.X
end
