import Derived.Test.YtcinokgfjdifbaaGreatAGh
set_option linter.unusedSimpArgs false
set_option linter.unusedVariables false
set_option maxRecDepth 100000
noncomputable section
namespace Go.Ev.X
open Go Go.Ev Go.Proofs
variable {E:Env} {f g:Nat->Int} {vs:Nat->Int} {l:List Nat} {B h:Nat} {s:Sd}
def symB (B h:Nat):Nat->SE
 | 0=>.v h
 | i+1=>.v (B+5+40*i)
def lsU (B F h n i:Nat):Sh:=⟨F,[.si .i64 (symB B h i)],.tup [tX (B+40*i) (sv (B+40*i)) (tv (B+40*i+3)) (sv (B+40*i+4)) (bif Nat.beq (i+1) n then z0 else sv (B+5+40*i)) (sv (B+40*i+6)) (sv (B+40*i+7)) (tv (B+40*i+8)) (tv (B+40*i+9)) (sv (B+40*i+12)),z0]⟩
def lsB (B F h n:Nat):List Sh:=(rng n).map (lsU B F h n)
def lsBF (B h n:Nat):List (SB × Bool):=bif Nat.beq n 0 then [(.cmp .neq (.v h) (.lit 0),false)] else (rng n).map (fun i=>(.cmp .neq (symB B h i) (.lit 0),true))
structure LsB (vs:Nat->Int) (B h:Nat) (g:Nat->Int) (l:List Nat):Prop where
 h9:h<9000/\h≠5
 h:vs h=(hdN l 0:Nat)
 t:∀ i,i<l.length->TlB vs (B+40*i) (za g (l.getD i 0)) (zp g (l.getD i 0))
theorem zg0 (hv:LsB vs B h g l) (hk:Lk g 0 l 0) (hE:AgV E vs):∀ {i:Nat},i<l.length->(symB B h i).den E=(l.getD i 0:Nat)
 | 0,hi=>((hE h hv.h9.1 hv.h9.2).trans hv.h).trans (by rw[ze7])
 | i+1,hi=>by
  have:=z4 (hv.t i (by omega)) hE (j:=5) (by omega)
  show E.i (B+5+40*i)=_
  rw[show B+5+40*i=B+40*i+5 from by omega,this]
  exact zms hk (by omega)
theorem zn2 (hs:SdOk s) (hv:LsB vs B h g l) (hk:Lk g 0 l 0) (hT:∀ u∈l,T4 u) (hr:∀ u∈l,RightAt g u):∀ (m i:Nat),i+m=l.length->Chn s.c vs ((zb1 i m).map (lsU B s.rt h l.length)) g g
 | 0,i,_=>z7 g
 | m+1,i,hi=>by
  have hm:=zbC (l:=l) (i:=i) (by omega)
  have tl:=hv.t i (by omega)
  refine zan (hs.rt (hT _ hm) (hr _ hm)) (fun E hE ρ=>jQ (vsi (zg0 hv hk hE (by omega)))) (fun E hE ρ=>yD ?_) (zn2 hs hv hk hT hr m (i+1) (by omega))
  refine zc7 (w:=za g (l.getD i 0)) tl hE (vsi (z4 tl hE (j:=0) (by omega))) (vsb (sbq (z4 tl hE (j:=3) (by omega)))) (vsi (z4 tl hE (j:=4) (by omega))) ?_ (vsi (z4 tl hE (j:=6) (by omega))) (vsi (z4 tl hE (j:=7) (by omega))) (vsb (sbq (z4 tl hE (j:=8) (by omega)))) (vsb (sbq (z4 tl hE (j:=9) (by omega)))) (vsi (z4 tl hE (j:=12) (by omega))) rfl rfl rfl rfl rfl
  have hn:=zms hk (i:=i) (by omega)
  by_cases e:i+1=l.length
  ·rw[show Nat.beq (i+1) l.length=true by simpa using e,hn,List.getD_eq_getElem?_getD,List.getElem?_eq_none (by omega)];rfl
  ·rw[show Nat.beq (i+1) l.length=false by rw[Bool.eq_false_iff];simpa using e]
   exact vsi ((congrArg E.i (by omega:B+5+40*i=B+40*i+5)).trans (z4 tl hE (j:=5) (by omega)))
theorem lsBF_ok (hv:LsB vs B h g l) (hk:Lk g 0 l 0) (h0:∀ u∈l,u≠0) (hE:AgV E vs):j8 E (lsBF B h l.length):=by
 by_cases e:l.length=0
 ·rw[e]
  refine⟨yu ?_,trivial⟩
  have:l=[]:=List.length_eq_zero_iff.1 e
  show E.i h=0
  rw[hE h hv.h9.1 hv.h9.2,hv.h,this];rfl
 ·unfold lsBF
  rw[show Nat.beq l.length 0=false by rw[Bool.eq_false_iff];simpa using e]
  refine zgD _ _ fun k h1 h2=>j7 ?_
  rw[zg0 hv hk hE (by omega)]
  have:=h0 _ (zbC (l:=l) (i:=k) (by omega))
  show ((l.getD k 0:Nat):Int)≠0
  omega
def epN (w:Nat):Nat:=3120+4*w
theorem epN_e {w:Nat} (h:w<3):EpA (epN w):=by
 unfold epN EpA;omega
def eV' (w:Nat):V:=.i .i64 (.ofNat (epN w))
theorem ep_run:zW (fun w=>Nat.beq (zdG cx0 0 (zaM (cxM cx0 cP 100 [] [⟨31,[.si .i64 (.v 0),.i .i64 3],.i .i64 (.ofNat w)⟩]) 20) 9 [.si .i64 (.v 0)] ⟨.h,.h,.e⟩ ⟨[],[]⟩ (endV (eV' w))) 0 && Nat.beq (zdG cx0 0 (zaM cx0 20) 9 [.i .i64 (.ofNat w)] ⟨.h,.h,.e⟩ ⟨[],[]⟩ (endV (eV' w))) 0) (rng 3)=true:=by decide +kernel
theorem pkw_pe {i n w:Nat} {x:Int} (hn:n∈[3,4,100]) (hi:E.i i=x) (hx:I64 x) (hw:jk x n=(w:Nat)):PEntOk PP E ⟨31,[.si .i64 (.v i),.i .i64 (.ofNat n)],.i .i64 (.ofNat w)⟩:=
 ⟨trivial,Tryz.call31,fun ρ W=>by
  have hr:=zt pk_run n hn
  simp only[Bool.and_eq_true,Nat.beq_eq]at hr
  have:=pick_c (P:=PP) (fun _=>zej 0 fun _=>0) (fun E _=>hC0 E) (fun E _=>zi9) hr.1 hr.2 hx W
  have hargs:(γL E ρ [.si .i64 (.v i),.i .i64 (.ofNat n)]).toArray=#[.int .i64 x,.int .i64 (n:Nat)]:=by
   simp only[γL,V.γ,SE.den,hi];rfl
  show Calls PP 31 (γL E ρ [.si .i64 (.v i),.i .i64 (.ofNat n)]).toArray W _
  rw[hargs]
  refine this.mono ?_
  rintro ex w' ⟨rfl,hb⟩
  refine⟨?_,hb⟩
  rw[show jk x (Int.ofNat n)=(w:Nat) from hw];rfl⟩
theorem epw_pe {i w:Nat} {x:Int} (hi:E.i i=x) (hx:I64 x) (hw:jk x 3=(w:Nat)) (hw3:w<3):PEntOk PP E ⟨9,[.si .i64 (.v i)],eV' w⟩:=⟨trivial,Tryz.call9,fun ρ W=>by
 obtain⟨E',hE'⟩:∃ E':Env,E'=⟨fun _=>x,fun _=>false,fun _=>zej 8192 f0⟩:=⟨_,rfl⟩
 have i0:E'.i 0=x:=by rw[hE']
 have hr:=rng_ok ep_run w hw3
 simp only[Bool.and_eq_true,Nat.beq_eq]at hr
 have:=zcL (hC0 E') (jq (zhW (c:=cP) (o:=100) (es:=[]) (ps:=[⟨31,[.si .i64 (.v 0),.i .i64 3],.i .i64 (.ofNat w)⟩]) (hC0 E') trivial (zn ⟨pkw_pe (E:=E') (i:=0) (n:=3) (by simp) i0 hx hw,trivial⟩)) 20) FaOk.nil hr.1 (l:=[.si .i64 (.v 0)]) ⟨trivial,trivial⟩ ρ W
 have ha:(γL E ρ [.si .i64 (.v i)]).toArray=(γL E' ρ [.si .i64 (.v 0)]).toArray:=by
  simp only[γL,V.γ,SE.den,hi,i0]
 show Calls PP 9 (γL E ρ [.si .i64 (.v i)]).toArray W _
 rw[ha]
 exact this.mono fun e w' h=>by
  obtain⟨⟨ρ',h1⟩,h2⟩:=h
  exact⟨h1,h2⟩⟩
def puC (ps:List PEnt) (inner:z3):z3:=fun F l h fa k=>bc (anyP ps F) (puK ps F l h fa k) (inner F l h fa k)
theorem puC_ok {ps:List PEnt} {inner:z3} (hp:PsOk PP E ps) (h:zk E PP inner):zk E PP (puC ps inner):=by
 intro F l h0 fa k hk hfa
 have hk:bc (anyP ps F) (puK ps F l h0 fa k) (inner F l h0 fa k)=0:=hk
 cases e:anyP ps F with
 | true=>exact puK_ok (zn hp) F F l h0 fa k (by show bc (Nat.beq F F) _ 1=0;rw[show Nat.beq F F=true by simp];rw[e]at hk;exact hk) hfa
 | false=>rw[e]at hk;exact h F l h0 fa k hk hfa
end Go.Ev.X
end
set_option linter.unusedSimpArgs false
set_option linter.unusedVariables false
set_option maxRecDepth 100000
noncomputable section
namespace Go.Ev.X
open Go Go.Ev Go.Proofs
variable {E:Env} {f fp g:Nat->Int} {L L':Nat->List Nat} {Q:Nat->List Nat} {P:Nat->TV} {c:Nat} {S:Nat->Int}
def vsE (base f g:Nat->Int) (L L':Nat->List Nat) (i:Nat):Int:=
 if i<300 then base i
 else if i<730 then (match (i - 700) % 10 with | 0=>stQ (f (epN ((i - 700) / 10))) | 1=>hdQ (f (epN ((i - 700) / 10))) | _=>tlQ (f (epN ((i - 700) / 10))))
 else if i<1000 then (match (i - 730) % 10 with | 0=>stQ (g (epN ((i - 730) / 10))) | 1=>hdQ (g (epN ((i - 730) / 10))) | _=>tlQ (g (epN ((i - 730) / 10))))
 else if i<1600 then ym (za f ((L (epN ((i - 1000) / 200))).getD ((i - 1000) % 200 / 40) 0)) (zp f ((L (epN ((i - 1000) / 200))).getD ((i - 1000) % 200 / 40) 0)) ((i - 1000) % 200 % 40)
 else ym (za g ((L' (epN ((i - 1600) / 200))).getD ((i - 1600) % 200 / 40) 0)) (zp g ((L' (epN ((i - 1600) / 200))).getD ((i - 1600) % 200 / 40) 0)) ((i - 1600) % 200 % 40)
variable {base:Nat->Int} {e:Nat}
theorem zd7 (he:e<3):vsE base f g L L' (700+10*e)=stQ (f (epN e))/\vsE base f g L L' (701+10*e)=hdQ (f (epN e))/\vsE base f g L L' (702+10*e)=tlQ (f (epN e))/\vsE base f g L L' (730+10*e)=stQ (g (epN e))/\vsE base f g L L' (731+10*e)=hdQ (g (epN e))/\vsE base f g L L' (732+10*e)=tlQ (g (epN e)):=by
 have:e=0\/e=1\/e=2:=by omega
 rcases this with rfl | rfl | rfl <;> exact⟨rfl,rfl,rfl,rfl,rfl,rfl⟩
theorem vsE_t {i:Nat} (he:e<3) (hi:i<4):TlB (vsE base f g L L') (1000+200*e+40*i) (za f ((L (epN e)).getD i 0)) (zp f ((L (epN e)).getD i 0))/\TlB (vsE base f g L L') (1600+200*e+40*i) (za g ((L' (epN e)).getD i 0)) (zp g ((L' (epN e)).getD i 0)):=by
 refine⟨⟨by omega,by omega,fun j hj=>?_⟩,⟨by omega,by omega,fun j hj=>?_⟩⟩
 ·unfold vsE
  rw[if_neg (by omega),if_neg (by omega),if_neg (by omega),if_pos (by omega),show (1000+200*e+40*i+j - 1000) / 200=e from by omega,show (1000+200*e+40*i+j - 1000) % 200 / 40=i from by omega,show (1000+200*e+40*i+j - 1000) % 200 % 40=j from by omega]
 ·unfold vsE
  rw[if_neg (by omega),if_neg (by omega),if_neg (by omega),if_neg (by omega),show (1600+200*e+40*i+j - 1600) / 200=e from by omega,show (1600+200*e+40*i+j - 1600) % 200 / 40=i from by omega,show (1600+200*e+40*i+j - 1600) % 200 % 40=j from by omega]
theorem rd_ch {vs:Nat->Int} (h:EInv T4 EpA f Q P c L S) (he:e<3) {q B:Nat} (hq:5<q/\q+3<9000) (h0:vs q=stQ (f (epN e))) (h1:vs (q+1)=hdQ (f (epN e))) (h2:vs (q+2)=tlQ (f (epN e))) (ht:∀ i,i<(L (epN e)).length->TlB vs (B+40*i) (za f ((L (epN e)).getD i 0)) (zp f ((L (epN e)).getD i 0))) :
  Chn cP vs (zcr 15 (eV' e) q::lsB B 13 (q+1) (L (epN e)).length) f f/\LsB vs B (q+1) f (L (epN e))/\(∀ E,AgV E vs->j8 E (lsBF B (q+1) (L (epN e)).length))/\∀ E,AgV E vs->∀ i,i<(L (epN e)).length->(symB B (q+1) i).den E=((L (epN e)).getD i 0:Nat):=by
 have hep:=epN_e he
 obtain⟨w1,w2,w3,w4,w5⟩:=jB z5 h hep
 have lv:LsB vs B (q+1) f (L (epN e)):=⟨by omega,by rw[h1,w2],ht⟩
 have hk:=h.lk _ hep
 exact⟨zbD yJ hep (zbL h hep) (fun E _ ρ=>rfl) hq h0 h1 h2 (zn2 yJ lv hk (fun u hu=>(h.w _ u hep hu).1) (fun u hu=>(h.w _ u hep hu).2.1) _ 0 (by omega)),lv,fun E hE=>lsBF_ok lv hk (fun u hu=>by have:=zag z5 h hep u hu;omega) hE,fun E hE i hi=>zg0 lv hk hE hi⟩
theorem cxA_ok {p r:List Sh} {ps:List PEnt} {fs:List (SB × Bool)} {fm fm' fp fr:Nat->Int} {p2 r2:List Sh} (h:LiveC p p2 r r2 ps fs fm fm' fp fr E):CxOk E PP (zX PP) (cxA ps (p ++ p2) (r ++ r2)):=
 zk4 (jq (hC0 E) 20) (zk4 (jq (hC0 E) 20) (zhW (es:=[]) (hC0 E) trivial (zn h.ps)) h.ep) h.er
end Go.Ev.X
end
