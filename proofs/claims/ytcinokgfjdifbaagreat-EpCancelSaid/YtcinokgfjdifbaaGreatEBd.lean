import Derived.Test.YtcinokgfjdifbaaGreatAG
import Derived.Test.YtcinokgfjdifbaaGreatE7
set_option linter.unusedSimpArgs false
set_option linter.unusedVariables false
set_option maxRecDepth 100000
noncomputable section
namespace Go.Ev.X
open Go Go.Ev Go.Proofs
variable {E:Env} {f g:Nat->Int} {vs:Nat->Int} {l:List Nat} {B h:Nat} {s:Sd}
def symB (B h:Nat):Nat->SE
 | 0=>.v h
 | i+1=>.v (B+5+40*i)
def lsU (B F h n i:Nat):Sh:=⟨F,[.si .i64 (symB B h i)],.tup [tX (B+40*i) (sv (B+40*i)) (tv (B+40*i+3)) (sv (B+40*i+4)) (bif Nat.beq (i+1) n then z0 else sv (B+5+40*i)) (sv (B+40*i+6)) (sv (B+40*i+7)) (tv (B+40*i+8)) (tv (B+40*i+9)) (sv (B+40*i+12)),z0]⟩
def lsB (B F h n:Nat):List Sh:=(rng n).map (lsU B F h n)
def lsBF (B h n:Nat):List (SB × Bool):=bif Nat.beq n 0 then [(.cmp .neq (.v h) (.lit 0),false)] else (rng n).map (fun i=>(.cmp .neq (symB B h i) (.lit 0),true))
structure LsB (vs:Nat->Int) (B h:Nat) (g:Nat->Int) (l:List Nat):Prop where
 h9:h<9000/\h≠5
 h:vs h=(hdN l 0:Nat)
 t:∀ i,i<l.length->TlB vs (B+40*i) (za g (l.getD i 0)) (zp g (l.getD i 0))
theorem zhp (hv:LsB vs B h g l) (hk:Lk g 0 l 0) (hE:AgV E vs):∀ {i:Nat},i<l.length->(symB B h i).den E=(l.getD i 0:Nat)
 | 0,hi=>((hE h hv.h9.1 hv.h9.2).trans hv.h).trans (by rw[zfq])
 | i+1,hi=>by
  have:=z3 (hv.t i (by omega)) hE (j:=5) (by omega)
  show E.i (B+5+40*i)=_
  rw[show B+5+40*i=B+40*i+5 from by omega,this]
  exact zmO hk (by omega)
theorem lsB_ch (hs:SdOk s) (hv:LsB vs B h g l) (hk:Lk g 0 l 0) (hT:∀ u∈l,T4 u) (hr:∀ u∈l,RightAt g u):∀ (m i:Nat),i+m=l.length->Chn s.c vs ((zc1 i m).map (lsU B s.rt h l.length)) g g
 | 0,i,_=>zQ g
 | m+1,i,hi=>by
  have hm:=zcg (l:=l) (i:=i) (by omega)
  have tl:=hv.t i (by omega)
  refine zar (hs.rt (hT _ hm) (hr _ hm)) (fun E hE ρ=>jV (vsi (zhp hv hk hE (by omega)))) (fun E hE ρ=>yF ?_) (lsB_ch hs hv hk hT hr m (i+1) (by omega))
  refine zdl (w:=za g (l.getD i 0)) tl hE (vsi (z3 tl hE (j:=0) (by omega))) (vsb (sbq (z3 tl hE (j:=3) (by omega)))) (vsi (z3 tl hE (j:=4) (by omega))) ?_ (vsi (z3 tl hE (j:=6) (by omega))) (vsi (z3 tl hE (j:=7) (by omega))) (vsb (sbq (z3 tl hE (j:=8) (by omega)))) (vsb (sbq (z3 tl hE (j:=9) (by omega)))) (vsi (z3 tl hE (j:=12) (by omega))) rfl rfl rfl rfl rfl
  have hn:=zmO hk (i:=i) (by omega)
  by_cases e:i+1=l.length
  ·rw[show Nat.beq (i+1) l.length=true by simpa using e,hn,List.getD_eq_getElem?_getD,List.getElem?_eq_none (by omega)];rfl
  ·rw[show Nat.beq (i+1) l.length=false by rw[Bool.eq_false_iff];simpa using e]
   exact vsi ((congrArg E.i (by omega:B+5+40*i=B+40*i+5)).trans (z3 tl hE (j:=5) (by omega)))
theorem lsBF_ok (hv:LsB vs B h g l) (hk:Lk g 0 l 0) (h0:∀ u∈l,u≠0) (hE:AgV E vs):zaQ E (lsBF B h l.length):=by
 by_cases e:l.length=0
 ·rw[e]
  refine⟨yD ?_,trivial⟩
  have:l=[]:=List.length_eq_zero_iff.1 e
  show E.i h=0
  rw[hE h hv.h9.1 hv.h9.2,hv.h,this];rfl
 ·unfold lsBF
  rw[show Nat.beq l.length 0=false by rw[Bool.eq_false_iff];simpa using e]
  refine zfr _ _ fun k h1 h2=>zaq ?_
  rw[zhp hv hk hE (by omega)]
  have:=h0 _ (zcg (l:=l) (i:=k) (by omega))
  show ((l.getD k 0:Nat):Int)≠0
  omega
def epN (w:Nat):Nat:=3120+4*w
theorem znb {w:Nat} (h:w<3):EpA (epN w):=by
 unfold epN EpA;omega
def eV' (w:Nat):V:=.i .i64 (.ofNat (epN w))
theorem ep_run:zX (fun w=>Nat.beq (zdT cx0 0 (zas (cxM cx0 cP 100 [] [⟨31,[.si .i64 (.v 0),.i .i64 3],.i .i64 (.ofNat w)⟩]) 20) 9 [.si .i64 (.v 0)] ⟨.h,.h,.e⟩ ⟨[],[]⟩ (endV (eV' w))) 0 && Nat.beq (zdT cx0 0 (zas cx0 20) 9 [.i .i64 (.ofNat w)] ⟨.h,.h,.e⟩ ⟨[],[]⟩ (endV (eV' w))) 0) (rng 3)=true:=by decide +kernel
theorem zf7 {w:Nat} (hw:w<3):PEntOk PP E ⟨9,[.i .i64 (.ofNat w)],eV' w⟩:=⟨trivial,Tryz.call9,fun ρ W=>by
 have hr:=rng_ok ep_run w hw
 simp only[Bool.and_eq_true,Nat.beq_eq]at hr
 have:=zb2 (hC0 E) (yw (hC0 E) 20) FaOk.nil hr.2 (l:=[.i .i64 (.ofNat w)]) ⟨trivial,trivial⟩ ρ W
 exact this.mono fun e w' h=>by
  obtain⟨⟨ρ',h1⟩,h2⟩:=h
  exact⟨h1,h2⟩⟩
theorem pkw_pe {i n w:Nat} {x:Int} (hn:n∈[3,4,100]) (hi:E.i i=x) (hx:I64 x) (hw:jn x n=(w:Nat)):PEntOk PP E ⟨31,[.si .i64 (.v i),.i .i64 (.ofNat n)],.i .i64 (.ofNat w)⟩:=
 ⟨trivial,Tryz.call31,fun ρ W=>by
  have hr:=zu pk_run n hn
  simp only[Bool.and_eq_true,Nat.beq_eq]at hr
  have:=pick_c (P:=PP) (fun _=>zeB 0 fun _=>0) (fun E _=>hC0 E) (fun E _=>zjw) hr.1 hr.2 hx W
  have hargs:(γL E ρ [.si .i64 (.v i),.i .i64 (.ofNat n)]).toArray=#[.int .i64 x,.int .i64 (n:Nat)]:=by
   simp only[γL,V.γ,SE.den,hi];rfl
  show Calls PP 31 (γL E ρ [.si .i64 (.v i),.i .i64 (.ofNat n)]).toArray W _
  rw[hargs]
  refine this.mono ?_
  rintro ex w' ⟨rfl,hb⟩
  refine⟨?_,hb⟩
  rw[show jn x (Int.ofNat n)=(w:Nat) from hw];rfl⟩
theorem epw_pe {i w:Nat} {x:Int} (hi:E.i i=x) (hx:I64 x) (hw:jn x 3=(w:Nat)) (hw3:w<3):PEntOk PP E ⟨9,[.si .i64 (.v i)],eV' w⟩:=⟨trivial,Tryz.call9,fun ρ W=>by
 obtain⟨E',hE'⟩:∃ E':Env,E'=⟨fun _=>x,fun _=>false,fun _=>zeB 8192 f0⟩:=⟨_,rfl⟩
 have i0:E'.i 0=x:=by rw[hE']
 have hr:=rng_ok ep_run w hw3
 simp only[Bool.and_eq_true,Nat.beq_eq]at hr
 have:=zb2 (hC0 E') (yw (zga (c:=cP) (o:=100) (es:=[]) (ps:=[⟨31,[.si .i64 (.v 0),.i .i64 3],.i .i64 (.ofNat w)⟩]) (hC0 E') trivial (zn ⟨pkw_pe (E:=E') (i:=0) (n:=3) (by simp) i0 hx hw,trivial⟩)) 20) FaOk.nil hr.1 (l:=[.si .i64 (.v 0)]) ⟨trivial,trivial⟩ ρ W
 have ha:(γL E ρ [.si .i64 (.v i)]).toArray=(γL E' ρ [.si .i64 (.v 0)]).toArray:=by
  simp only[γL,V.γ,SE.den,hi,i0]
 show Calls PP 9 (γL E ρ [.si .i64 (.v i)]).toArray W _
 rw[ha]
 exact this.mono fun e w' h=>by
  obtain⟨⟨ρ',h1⟩,h2⟩:=h
  exact⟨h1,h2⟩⟩
def puC (ps:List PEnt) (inner:z5):z5:=fun F l h fa k=>bc (anyP ps F) (puK ps F l h fa k) (inner F l h fa k)
theorem puC_ok {ps:List PEnt} {inner:z5} (hp:PsOk PP E ps) (h:zk E PP inner):zk E PP (puC ps inner):=by
 intro F l h0 fa k hk hfa
 have hk:bc (anyP ps F) (puK ps F l h0 fa k) (inner F l h0 fa k)=0:=hk
 cases e:anyP ps F with
 | true=>exact puK_ok (zn hp) F F l h0 fa k (by show bc (Nat.beq F F) _ 1=0;rw[show Nat.beq F F=true by simp];rw[e]at hk;exact hk) hfa
 | false=>rw[e]at hk;exact h F l h0 fa k hk hfa
end Go.Ev.X
end
set_option linter.unusedSimpArgs false
set_option linter.unusedVariables false
set_option maxRecDepth 100000
noncomputable section
namespace Go.Ev.X
open Go Go.Ev Go.Proofs
variable {E:Env} {l:LawA} {kv:Nat->Int}
theorem zrH (hl:LawOk l kv) {f:Func} {q:Cut2} {dr:Nat->Option Dr} (hfn:PP.funcs[l.F]? = some f) (hc:zpY (zW PP) dr f=some q) (hw:zgA dr f=true) {st:List (Ky × V)} {st2:Nat->GS} {Inv2:Nat->Nat->Env->Prop} {nx2:Nat->List (Nat × Sg)} {gT:Nat->Nat->Cx} {gE:Nat->Cx}
  (hT:∀ c n f' E,c<15->n<l.M->LiveC (shP c) (l.tP n) (shR c) (l.tR n) psA (l.lf c n) f' f' f' f' E->CxOk E PP (zW PP) (gT c n)) (hE:∀ d fp fr E,l.D d=true->LiveC (l.eP d) [] [] [] (l.eS d) (l.eF d) fp fr fp fr E->CxOk E PP (zW PP) (gE d))
  (go:∀ c n,c<15->n<l.M->ziT (stA st) q.x1 (q.endK ⟨zas (gT c n) 20,l.F,20000⟩ (fun _ _=>1)) (zfg (stA st) (nxA' (sgA l.ex (l.lp c n) (l.lr c n)))) ⟨zas (gT c n) 20,l.F,20000⟩ 1 ⟨l.ro c n,[]⟩=0)
  (out:∀ b d,l.D d=true->ziT (stA st) q.x1 (q.endK ⟨zas (gE d) 20,l.F,20000⟩ (zfg st2 (nx2 d))) (fun _ _=>1) ⟨zas (gE d) 20,l.F,20000⟩ 0 ⟨l.fo b d,[]⟩=0)
  (lead2:∀ d fp fr E,l.D d=true->l.Z d fp->LiveC (l.eP d) [] [] [] (l.eS d) (l.eF d) fp fr fp fr E->∃ m2,zj3 st2 Inv2 E (nx2 d) m2)
  (round2:∀ m j E,Inv2 m j E->∃ fa nk g,zk E PP g.call/\FaOk E fa/\ziT st2 q.x2 (q.end2 g) nk g j fa=0/\zdi st2 Inv2 E nk m)
  (hin:zf2 (argK l) (fun fr=>zIn q.z0 ⟨inA,l.F,20000⟩ fr hIn ⟨[],[]⟩ (fun fr h fa=>zIn q.z1 ⟨inA,l.F,20000⟩ fr h fa (fun fr h _=>zfg (stA st) (nxA' (sgA0 l.ex)) fr h) (zh2 q.z2 ⟨inA,l.F,20000⟩ (fun _ _=>1) (zgF q.z0 ⟨inA,l.F,20000⟩ (koB q.rs)))) (koB q.rs))=0)
  {r:Row} {D:Nat->Act} (hD:RowA r D) {W:World} (hW:W.heap[r.b]? = some (.cells r.cs r.t r.fz)) :
  Calls PP l.F (Value.slice (some ⟨r.b,r.off,none⟩) r.len r.cap::l.keep.map fun i=>Value.int .i64 (kv i)).toArray W fun e w'=>e=.returned (.bool true)/\RowKit.Below W.heap.size W w':=by
 obtain⟨E,hEd⟩:∃ E:Env,E=⟨fun i=>if i=1 then r.len else kv i,fun _=>false,fun q=>if q=0 then r else zeB 8192 f0⟩:=⟨_,rfl⟩
 have s0:E.s 0=r:=by rw[hEd];rfl
 have i1:E.i 1=r.len:=by rw[hEd];rfl
 have ik:∀ i∈l.keep,E.i i=kv i:=fun i hi=>by
  have:=hl.keep i hi
  rw[hEd]
  exact if_neg (by omega)
 have p0:z8 (E.s 100).cs 8192 f0:=by rw[hEd];exact jY _ _
 have r0:z8 (E.s 200).cs 8192 f0:=by rw[hEd];exact jY _ _
 have hB:=hl.b
 have:=zu5 za0 zkZ hfn hc hw (st:=stA st) (Inv:=InvA l kv) round2 (fun m j E hI=>?_) (E:=E) (g0:=⟨inA,l.F,20000⟩) (inA_ok p0 r0) FaOk.nil (l.B+1)
  (zcM <| lead_a hl (st:=st) (q:=100) (q':=200) (s2:=.lit 0) (x:=0) (sgK_of (l:=l) hl.keep rfl) W0 p0 r0 rfl (Int.le_refl 0) (by omega) ik (by rw[s0];exact i1) (by rw[s0];exact hD) (by omega)) hin (hIn_sat (by rw[s0];exact hW) (by rw[s0];exact hD.esz) (by rw[s0];exact i1)) ⟨show (1:Nat)<2 by decide,bdK _⟩ (fun p o hp _ hlo=>?_)
 ·have ha:(γL E (rhoA (E.s 0)) (argK l)).toArray=(Value.slice (some ⟨r.b,r.off,none⟩) r.len r.cap::l.keep.map fun i=>Value.int .i64 (kv i)).toArray:=by
   congr 1
   show V.γ E (rhoA (E.s 0)) (.fs q1 0)::γL E (rhoA (E.s 0)) (l.keep.map fun i=>.si .i64 (.v i))=_
   rw[γK,List.map_congr_left (fun i hi=>congrArg (Value.int .i64) (ik i hi))]
   simp only[V.γ,s0]
  rw[ha]at this
  exact this
 ·obtain⟨hlen,⟨D,hD⟩,h20,hm,hk,hcase⟩:=hI
  rcases hcase with ⟨rfl,h1,h2,c,n,f',hcs,hn,hf',hlive⟩ | ⟨rfl,h1,d,fp,fr,hd,hz,hlive⟩
  ·refine⟨⟨l.ro c n,[]⟩,_,_,0,⟨zas (gT c n) 20,l.F,20000⟩,yw (hT c n f' E hcs hn hlive) 20,zm (show zaQ E (l.ro c n) from ⟨f_lt h1,f_lt (show E.i 2<((l.B:Nat):Int) from h2),hlive.fs⟩) trivial,go c n hcs hn,zcM ?_,zbD⟩
   refine lead_a hl (st:=st) (q:=100+(l.lp c n).length) (q':=200+(l.lr c n).length) (s2:=.op .add .i64 (.v 2) (.lit 1)) (x:=E.i 2+1) (sgK_of (l:=l) hl.keep rfl) hf' hlive.wp hlive.wr ?_ (by omega) (by omega) hk hlen hD (by omega)
   show jQ .i64 (E.i 2+1)=_
   rw[z9,IntKind.wrap_i64];omega
  ·obtain⟨m2,hl2⟩:=lead2 d fp fr E hd hz hlive
   by_cases h:E.i 2<E.i 1
   ·exact⟨⟨l.fo true d,[]⟩,_,_,m2,⟨zas (gE d) 20,l.F,20000⟩,yw (hE d fp fr E hd hlive) 20,zm (show zaQ E (l.fo true d) from jR ⟨f_lt h,zjM (show ((l.B:Nat):Int)<=E.i 2 by omega),trivial⟩ hlive.fs) trivial,out true d hd,zbD,zcM hl2⟩
   ·exact⟨⟨l.fo false d,[]⟩,_,_,m2,⟨zas (gE d) 20,l.F,20000⟩,yw (hE d fp fr E hd hlive) 20,zm (show zaQ E (l.fo false d) from jR ⟨zjM (show E.i 1<=E.i 2 by omega),trivial⟩ hlive.fs) trivial,out false d hd,zbD,zcM hl2⟩
 ·have hp:((PT.e:PT O).set .h (.row 0 6 (.v 1) (.v 2) [])).get p=some o:=hp
  have hlo:2<=p.toNat:=hlo
  by_cases e:p=.h
  ·subst e
   have:(Ev.P.h:Ev.P).toNat=1:=rfl
   omega
  ·rw[PT.get_set_other _ _ _ _ (fun h=>e h.symm),PT.get_e]at hp
   cases hp
end Go.Ev.X
end
set_option linter.unusedSimpArgs false
set_option linter.unusedVariables false
set_option maxRecDepth 100000
noncomputable section
namespace Go.Ev.X
open Go Go.Ev Go.Proofs
variable {E:Env} {f fp g:Nat->Int} {L L':Nat->List Nat} {Q:Nat->List Nat} {P:Nat->TV} {c:Nat} {S:Nat->Int}
def vsE (base f g:Nat->Int) (L L':Nat->List Nat) (i:Nat):Int:=
 if i<300 then base i
 else if i<730 then (match (i - 700) % 10 with | 0=>stQ (f (epN ((i - 700) / 10))) | 1=>hdQ (f (epN ((i - 700) / 10))) | _=>tlQ (f (epN ((i - 700) / 10))))
 else if i<1000 then (match (i - 730) % 10 with | 0=>stQ (g (epN ((i - 730) / 10))) | 1=>hdQ (g (epN ((i - 730) / 10))) | _=>tlQ (g (epN ((i - 730) / 10))))
 else if i<1600 then ym (za f ((L (epN ((i - 1000) / 200))).getD ((i - 1000) % 200 / 40) 0)) (zp f ((L (epN ((i - 1000) / 200))).getD ((i - 1000) % 200 / 40) 0)) ((i - 1000) % 200 % 40)
 else ym (za g ((L' (epN ((i - 1600) / 200))).getD ((i - 1600) % 200 / 40) 0)) (zp g ((L' (epN ((i - 1600) / 200))).getD ((i - 1600) % 200 / 40) 0)) ((i - 1600) % 200 % 40)
variable {base:Nat->Int} {e:Nat}
theorem zjg (he:e<3):vsE base f g L L' (700+10*e)=stQ (f (epN e))/\vsE base f g L L' (701+10*e)=hdQ (f (epN e))/\vsE base f g L L' (702+10*e)=tlQ (f (epN e))/\vsE base f g L L' (730+10*e)=stQ (g (epN e))/\vsE base f g L L' (731+10*e)=hdQ (g (epN e))/\vsE base f g L L' (732+10*e)=tlQ (g (epN e)):=by
 have:e=0\/e=1\/e=2:=by omega
 rcases this with rfl | rfl | rfl <;> exact⟨rfl,rfl,rfl,rfl,rfl,rfl⟩
theorem vsE_t {i:Nat} (he:e<3) (hi:i<4):TlB (vsE base f g L L') (1000+200*e+40*i) (za f ((L (epN e)).getD i 0)) (zp f ((L (epN e)).getD i 0))/\TlB (vsE base f g L L') (1600+200*e+40*i) (za g ((L' (epN e)).getD i 0)) (zp g ((L' (epN e)).getD i 0)):=by
 refine⟨⟨by omega,by omega,fun j hj=>?_⟩,⟨by omega,by omega,fun j hj=>?_⟩⟩
 ·unfold vsE
  rw[if_neg (by omega),if_neg (by omega),if_neg (by omega),if_pos (by omega),show (1000+200*e+40*i+j - 1000) / 200=e from by omega,show (1000+200*e+40*i+j - 1000) % 200 / 40=i from by omega,show (1000+200*e+40*i+j - 1000) % 200 % 40=j from by omega]
 ·unfold vsE
  rw[if_neg (by omega),if_neg (by omega),if_neg (by omega),if_neg (by omega),show (1600+200*e+40*i+j - 1600) / 200=e from by omega,show (1600+200*e+40*i+j - 1600) % 200 / 40=i from by omega,show (1600+200*e+40*i+j - 1600) % 200 % 40=j from by omega]
theorem rd_ch {vs:Nat->Int} (h:EInv T4 EpA f Q P c L S) (he:e<3) {q B:Nat} (hq:5<q/\q+3<9000) (h0:vs q=stQ (f (epN e))) (h1:vs (q+1)=hdQ (f (epN e))) (h2:vs (q+2)=tlQ (f (epN e))) (ht:∀ i,i<(L (epN e)).length->TlB vs (B+40*i) (za f ((L (epN e)).getD i 0)) (zp f ((L (epN e)).getD i 0))) :
  Chn cP vs (zdB 15 (eV' e) q::lsB B 13 (q+1) (L (epN e)).length) f f/\LsB vs B (q+1) f (L (epN e))/\(∀ E,AgV E vs->zaQ E (lsBF B (q+1) (L (epN e)).length))/\∀ E,AgV E vs->∀ i,i<(L (epN e)).length->(symB B (q+1) i).den E=((L (epN e)).getD i 0:Nat):=by
 have hep:=znb he
 obtain⟨w1,w2,w3,w4,w5⟩:=jM z7 h hep
 have lv:LsB vs B (q+1) f (L (epN e)):=⟨by omega,by rw[h1,w2],ht⟩
 have hk:=h.lk _ hep
 exact⟨zbO yS hep (zb8 h hep) (fun E _ ρ=>rfl) hq h0 h1 h2 (lsB_ch yS lv hk (fun u hu=>(h.w _ u hep hu).1) (fun u hu=>(h.w _ u hep hu).2.1) _ 0 (by omega)),lv,fun E hE=>lsBF_ok lv hk (fun u hu=>by have:=zak z7 h hep u hu;omega) hE,fun E hE i hi=>zhp lv hk hE hi⟩
theorem zoM {p r:List Sh} {ps:List PEnt} {fs:List (SB × Bool)} {fm fm' fp fr:Nat->Int} {p2 r2:List Sh} (h:LiveC p p2 r r2 ps fs fm fm' fp fr E):CxOk E PP (zW PP) (cxA ps (p ++ p2) (r ++ r2)):=
 zgb (yw (hC0 E) 20) (zgb (yw (hC0 E) 20) (zga (es:=[]) (hC0 E) trivial (zn h.ps)) h.ep) h.er
end Go.Ev.X
end
