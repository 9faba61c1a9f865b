import Derived.Test.YtcinokgfjdifbaaGreatCQy
import Derived.Test.YtcinokgfjdifbaaGreatCQ0
import Derived.Test.YtcinokgfjdifbaaGreatCQ1
import Derived.Test.YtcinokgfjdifbaaGreatCQ2
import Derived.Test.YtcinokgfjdifbaaGreatEBd
set_option linter.unusedSimpArgs false
set_option linter.unusedVariables false
set_option maxRecDepth 100000
noncomputable section
namespace Go.Ev.X
open Go Go.Ev Go.Proofs
variable {E:Env} {f fp g:Nat->Int} {L L':Nat->List Nat} {Q:Nat->List Nat} {P:Nat->TV} {c:Nat} {S:Nat->Int}
variable {base:Nat->Int} {e:Nat}
theorem sum4 (h:EInv T4 EpA f Q P c L S):(L (epN 0)).length+(L (epN 1)).length+(L (epN 2)).length<=4:=by
 have e0:=znb (w:=0) (by omega)
 have e1:=znb (w:=1) (by omega)
 have e2:=znb (w:=2) (by omega)
 have hn:(L (epN 0) ++ (L (epN 1) ++ L (epN 2))).Nodup:=by
  refine List.nodup_append.2 ⟨h.nd _ e0,List.nodup_append.2 ⟨h.nd _ e1,h.nd _ e2,fun x hx y hy hxy=>?_⟩,fun x hx y hy hxy=>?_⟩
  ·have:=h.dj _ _ x e1 e2 hx (hxy ▸ hy)
   unfold epN at this;omega
  ·rcases List.mem_append.1 hy with hy | hy
   ·have:=h.dj _ _ x e0 e1 hx (hxy ▸ hy)
    unfold epN at this;omega
   ·have:=h.dj _ _ x e0 e2 hx (hxy ▸ hy)
    unfold epN at this;omega
 have:=len4 hn fun x hx=>by
  rcases List.mem_append.1 hx with hx | hx
  ·exact(h.w _ x e0 hx).1
  ·rcases List.mem_append.1 hx with hx | hx
   ·exact(h.w _ x e1 hx).1
   ·exact(h.w _ x e2 hx).1
 simp only[List.length_append]at this
 omega
theorem th_bl (h:EInv T4 EpA f Q P c L S) {t:Nat} (ht:T4 t) (he:e<3) (h0:L (epN e)=[]):RightAt f t/\(za f t).bl≠(epN e:Int):=by
 refine⟨j7 h ht,?_⟩
 by_cases hw:Wt EpA L t
 ·obtain⟨e',he',hm⟩:=hw
  obtain⟨_,_,hct,_,hbl,_⟩:=h.w e' t he' hm
  have hb:(za f t).bl=(e':Int):=by rw[<- hbl,<- hct];rfl
  rw[hb]
  intro e2
  have:e'=epN e:=by omega
  rw[this,h0]at hm;cases hm
 ·have:=(h.fr t ⟨ht,hw⟩).2
  have hb:(za f t).bl=(P t).bl:=by rw[<- h.ss.th t ⟨ht,hw⟩];rfl
  rw[hb,this]
  unfold epN;omega
theorem dN_ok {w a b n:Nat} (hw:w<3) (ha:a<5) (hb:b<5) (hn:n<5):dW (125*w+25*a+5*b+n)=w/\dN (125*w+25*a+5*b+n) 0=a/\dN (125*w+25*a+5*b+n) 1=b/\dN (125*w+25*a+5*b+n) 2=n:=by
 refine⟨?_,?_,?_,?_⟩
 ·show (125*w+25*a+5*b+n) / 125=w;omega
 ·show (125*w+25*a+5*b+n) / 25 % 5=a;omega
 ·show (125*w+25*a+5*b+n) / 5 % 5=b;omega
 ·show (125*w+25*a+5*b+n) / 1 % 5=n;omega
theorem end_ok {kv:Nat->Int} (hkv:I64 (kv 3)):EndOk zgJ kv:=fun f base hf hk=>by
 obtain⟨Q,P,c,L,S,h⟩:=hf
 have hk3:base 3=kv 3:=hk 3 (by simp[zgJ])
 have hlt:=zbA (c:=kv 3) (n:=3) (by omega)
 obtain⟨w,hwd⟩:∃ w:Nat,jn (kv 3) 3=(w:Nat):=⟨(jn (kv 3) 3).toNat,by omega⟩
 have hw:w<3:=by omega
 have hep:=znb hw
 obtain⟨Q',P',h',_⟩:=can_E hep h rfl
 obtain⟨fp,hfp⟩:∃ fp,fp=canF f (epN w) (L (epN w)):=⟨_,rfl⟩
 have hcan:=znq h hep
 rw[<- hfp]at h' hcan
 obtain⟨L',hL'⟩:∃ L',L'=zaW L (epN w) []:=⟨_,rfl⟩
 rw[<- hL']at h'
 have s4:=sum4 h
 obtain⟨d,hd⟩:∃ d,d=125*w+25*(L (epN 0)).length+5*(L (epN 1)).length+(L (epN 2)).length:=⟨_,rfl⟩
 obtain⟨d0,d1,d2,d3⟩:=dN_ok (w:=w) (a:=(L (epN 0)).length) (b:=(L (epN 1)).length) (n:=(L (epN 2)).length) hw (by omega) (by omega) (by omega)
 rw[<- hd]at d0 d1 d2 d3
 have dn:∀ e,e<3->dN d e=(L (epN e)).length:=fun e he=>by
  have:e=0\/e=1\/e=2:=by omega
  rcases this with rfl | rfl | rfl <;> assumption
 have dl:∀ e,e<3->(L (epN e)).length<=4:=fun e he=>by
  have:e=0\/e=1\/e=2:=by omega
  rcases this with rfl | rfl | rfl <;> omega
 have la:∀ e,e<3->e≠w->L' (epN e)=L (epN e):=fun e he hne=>by rw[hL',zP _ _ (by unfold epN;omega)]
 have lw:L' (epN w)=[]:=by rw[hL',zR]
 have da:∀ e,e<3->dA d e=(L' (epN e)).length:=fun e he=>by
  unfold dA
  rw[d0]
  by_cases e2:e=w
  ·subst e2;rw[show Nat.beq e e=true by simp,lw];rfl
  ·rw[show Nat.beq e w=false by rw[Bool.eq_false_iff];simpa using e2,la e he e2];exact dn e he
 have dal:∀ e,e<3->(L' (epN e)).length<=4:=fun e he=>by
  by_cases e2:e=w
  ·subst e2;rw[lw];simp
  ·rw[la e he e2];exact dl e he
 have rB:∀ e (he:e<3),_:=fun e he=>rd_ch (vs:=vsE base f fp L L') h he (q:=700+10*e) (B:=1000+200*e) (by omega) (zjg he).1 (by rw[show 700+10*e+1=701+10*e from by omega];exact(zjg he).2.1) (by rw[show 700+10*e+2=702+10*e from by omega];exact(zjg he).2.2.1) fun i hi=>(vsE_t he (by have:=dl e he;omega)).1
 have rA:∀ e (he:e<3),_:=fun e he=>rd_ch (vs:=vsE base f fp L L') h' he (q:=730+10*e) (B:=1600+200*e) (by omega) (zjg he).2.2.2.1 (by rw[show 730+10*e+1=731+10*e from by omega];exact(zjg he).2.2.2.2.1) (by rw[show 730+10*e+2=732+10*e from by omega];exact(zjg he).2.2.2.2.2) fun i hi=>(vsE_t he (by have:=dal e he;omega)).2
 have bC:∀ e,e<3->Chn cP (vsE base f fp L L') (bfS d e) f f:=fun e he=>by
  unfold bfS;rw[dn e he,show 701+10*e=700+10*e+1 from by omega];exact(rB e he).1
 have aC:∀ e,e<3->Chn cP (vsE base f fp L L') (afS d e) fp fp:=fun e he=>by
  unfold afS;rw[da e he,show 731+10*e=730+10*e+1 from by omega];exact(rA e he).1
 have fE:∀ e,e<3->∀ E,AgV E (vsE base f fp L L')->zaQ E (fsE d e):=fun e he E hE=>by
  unfold fsE
  rw[dn e he,da e he,show 701+10*e=700+10*e+1 from by omega,show 731+10*e=730+10*e+1 from by omega]
  refine jR ((rB e he).2.2.1 E hE) (jR ((rA e he).2.2.1 E hE) (zfr _ _ fun k h1 h2=>yD ?_))
  by_cases e2:e=w
  ·subst e2;rw[lw]at h2;simp at h2
  ·have hkl:k<(L (epN e)).length:=by rw[la e he e2]at h2;omega
   rw[(rB e he).2.2.2 E hE k hkl,(rA e he).2.2.2 E hE k (by omega),la e he e2]
 refine⟨d,fp,?_,?_,vsE base f fp L L',fun i hi=>if_pos hi,?_,zQ _,zQ _,zQ _,fun E hE=>⟨?_,?_⟩⟩
 ·show (Nat.blt d 375 && Nat.ble (dN d 0+dN d 1+dN d 2) 4)=true
  rw[d1,d2,d3,Bool.and_eq_true]
  refine⟨?_,by rw[Nat.ble_eq];exact s4⟩
  rw[Nat.blt_eq];omega
 ·show ThZ (epN (dW d)) fp
  rw[d0]
  exact fun k hk=>th_bl h' (by unfold T4;omega) hw lw
 ·show Chn cP _ (bfS d 0 ++ (bfS d 1 ++ (bfS d 2 ++ (cl 11 [eV' (dW d)]::(afS d 0 ++ (afS d 1 ++ afS d 2)))))) f fp
  rw[d0]
  exact zaP (bC 0 (by omega)) (zaP (bC 1 (by omega)) (zaP (bC 2 (by omega)) (zcR hcan (fun E _ ρ=>rfl) (zaP (aC 0 (by omega)) (zaP (aC 1 (by omega)) (aC 2 (by omega)))))))
 ·have i3:E.i 3=kv 3:=(hE 3 (by omega) (by omega)).trans hk3
  show PsOk PP E [⟨9,[.si .i64 (.v 3)],eV' (dW d)⟩,⟨9,[.i .i64 0],eV' 0⟩,⟨9,[.i .i64 1],eV' 1⟩,⟨9,[.i .i64 2],eV' 2⟩]
  rw[d0]
  exact⟨epw_pe i3 hkv hwd hw,zf7 (w:=0) (by omega),zf7 (w:=1) (by omega),zf7 (w:=2) (by omega),trivial⟩
 ·exact jR (fE 0 (by omega) E hE) (jR (fE 1 (by omega) E hE) (fE 2 (by omega) E hE))
theorem lawC_ok {kv:Nat->Int} (hkv:I64 (kv 3)):LawOk zgJ kv:=by
 refine⟨by decide,fun i hi=>.inl (by simpa [zgJ] using hi),fun n hn=>⟨by show 0<=70;omega,by show 0<=70;omega⟩,fun d hd=>?_,fun f x hf=>⟨0,fun _=>0,by decide,fun vs _ _=>⟨zQ f,zQ f,fun _ _=>trivial⟩⟩,end_ok hkv⟩
 have h5:∀ e,dN d e<5:=fun e=>Nat.mod_lt _ (by decide)
 have h6:∀ e,dA d e<5:=fun e=>by
  unfold dA
  cases Nat.beq e (dW d)
  ·exact h5 e
  ·exact Nat.succ_pos 4
 have ll:∀ {B F h n},(lsB B F h n).length=n:=fun {B F h n}=>by
  unfold lsB rng
  rw[List.length_map]
  have:∀ m i,(zc1 i m).length=m:=fun m=>by
   induction m with
   | zero=>intro i;rfl
   | succ m ih=>intro i;show (zc1 (i+1) m).length+1=m+1;rw[ih]
  exact this n 0
 show (shC' d).length<=70
 unfold shC' bfS afS
 simp only[List.length_append,List.length_cons,ll]
 have:=h5 0
 have:=h5 1
 have:=h5 2
 have:=h6 0
 have:=h6 1
 have:=h6 2
 omega
def InvB (w m j:Nat) (E:Env):Prop:=∃ f f2,ThZ (epN w) f/\z8 (E.s 100).cs 8192 f/\z8 (E.s 200).cs 8192 f2/\E.i 4=(epN w:Nat)/\((j=12/\m=0)\/∃ k s,k<4/\s<3/\j=3*k+s/\m+k=4/\LiveC [thB k] [] [] [] [] (stF s) f f2 f f2 E)
theorem zku {e:SE} {p:List Sh}:SgK (sgB e p) [] (.v 2) (100+p.length) 200:=by
 refine⟨rfl,rfl,fun i hi=>absurd hi List.not_mem_nil,rfl,rfl,fun i h1 h2 h3=>zpa fun p hp=>?_⟩
 simp only[List.mem_cons,List.not_mem_nil,or_false]at hp
 rcases hp with rfl | rfl | rfl | rfl | rfl | rfl | rfl
 ·show i≠1;omega
 ·show i≠2;omega
 ·show i≠4;omega
 ·show i≠5;omega
 ·show i≠6;omega
 ·exact h2
 ·exact h3
theorem zpN:rowU hB=true:=by decide +kernel
theorem lead_b {f2:Nat->Int} {w k m:Nat} (hw:w<3) (hk:k<=4) {s4:SE} {p:List Sh} (hz:ThZ (epN w) f) (hq:z8 (E.s (100+p.length)).cs 8192 f) (hq':z8 (E.s 200).cs 8192 f2) (h4:s4.den E=(epN w:Nat)) (hm:4 - k<m):zj3 stB (InvB w) E (nxB k (sgB s4 p)) m:=by
 intro _
 have b4:∀ g,zai (sgB s4 p) E g 4=(epN w:Nat):=fun g=>h4
 by_cases h:k<4
 ·have hT:T4 (1024+64*k):=by unfold T4;omega
  obtain⟨hr,hbl⟩:=hz k h
  obtain⟨vs,hvs⟩:∃ vs:Nat->Int,vs=fun i=>if i<300 then zai (sgB s4 p) E (fun _=>0) i else ym (za f (1024+64*k)) (zp f (1024+64*k)) (i - 2200):=⟨_,rfl⟩
  have tl:TlB vs 2200 (za f (1024+64*k)) (zp f (1024+64*k)):=⟨by omega,by omega,fun j hj=>by
   rw[hvs]
   show (if 2200+j<300 then _ else ym _ _ (2200+j - 2200))=_
   rw[if_neg (by omega),show 2200+j - 2200=j from by omega]⟩
  have g0:∀ E,AgV E vs->E.i 2200=(za f (1024+64*k)).st:=fun E hE=>z3 tl hE (j:=0) (by omega)
  have g6:∀ E,AgV E vs->E.i 2206=(za f (1024+64*k)).bl:=fun E hE=>z3 tl hE (j:=6) (by omega)
  have g4:∀ E,AgV E vs->E.i 4=(epN w:Nat):=fun E hE=>by
   rw[hE 4 (by omega) (by omega),hvs];exact b4 fun _=>0
  have fb:∀ E,AgV E vs->(SB.cmp .eql (.v 2206) (.v 4)).den E=false:=fun E hE=>yB (by show E.i 2206≠E.i 4;rw[g6 E hE,g4 E hE];exact hbl)
  obtain⟨s,hs3,hfs⟩:∃ s,s<3/\∀ E,AgV E vs->zaQ E (stF s):=by
   by_cases h2:(za f (1024+64*k)).st=2
   ·exact⟨1,by omega,fun E hE=>⟨zae (by show E.i 2200=2;rw[g0 E hE,h2]),fb E hE,trivial⟩⟩
   ·by_cases h3:(za f (1024+64*k)).st=3
    ·exact⟨2,by omega,fun E hE=>⟨yB (by show E.i 2200≠2;rw[g0 E hE];exact h2),zae (by show E.i 2200=3;rw[g0 E hE,h3]),fb E hE,trivial⟩⟩
    ·exact⟨0,by omega,fun E hE=>⟨yB (by show E.i 2200≠2;rw[g0 E hE];exact h2),yB (by show E.i 2200≠3;rw[g0 E hE];exact h3),trivial⟩⟩
  have hcase:znM f f2 (zai (sgB s4 p) E fun _=>0) [thB k] [] [] [] [] (stF s) f f2 f f2:=⟨vs,fun i hi=>by rw[hvs];exact if_pos hi,zaH yS hT hr (fun E _ ρ=>rfl) tl (zQ f),zQ f,zQ f2,zQ f2,fun E hE=>⟨trivial,hfs E hE⟩⟩
  obtain⟨E',t,ei,_,hlive⟩:=zlh zku hcase (by show 1<90;omega) (by show 0<90;omega) hq hq' 0
  have w1:z8 (E'.s 100).cs 8192 f:=by
   have:=t.r 100 _ (by omega) zku.gp
   unfold z8 at hq ⊢
   rw[this];exact hq
  have w2:z8 (E'.s 200).cs 8192 f2:=by
   have:=t.r 200 _ (by omega) zku.gr
   unfold z8 at hq' ⊢
   rw[this];exact hq'
  refine⟨3*k+s,sgB s4 p,4 - k,E',?_,hm,⟨f,f2,hz,w1,w2,(ei 4 (by omega)).trans (b4 _),.inr ⟨k,s,h,hs3,rfl,by omega,hlive⟩⟩,t,zkH zpN⟩
  unfold nxB
  rw[show Nat.blt k 4=true by rw[Nat.blt_eq];exact h]
  have:s=0\/s=1\/s=2:=by omega
  rcases this with rfl | rfl | rfl <;> simp
 ·have hcase:znM f f2 (zai (sgB s4 p) E fun _=>0) [] [] [] [] [] [] f f2 f f2:=⟨fun i=>if i<300 then zai (sgB s4 p) E (fun _=>0) i else 0,fun i hi=>if_pos hi,zQ f,zQ f,zQ f2,zQ f2,fun E hE=>⟨trivial,trivial⟩⟩
  obtain⟨E',t,ei,_,hlive⟩:=zlh zku hcase (by show 0<90;omega) (by show 0<90;omega) hq hq' 0
  refine⟨12,sgB s4 p,0,E',?_,by omega,⟨f,f2,hz,hlive.wm,hlive.wm',(ei 4 (by omega)).trans (b4 _),.inl ⟨rfl,rfl⟩⟩,t,zkH zpN⟩
  unfold nxB
  rw[show Nat.blt k 4=false by rw[Bool.eq_false_iff,ne_eq,Nat.blt_eq];exact h]
  simp
theorem outC_ok {d:Nat} (hd:dOk d=true) (b:Bool):outC b d=0:=by
 unfold dOk at hd
 rw[Bool.and_eq_true,Nat.blt_eq,Nat.ble_eq]at hd
 obtain⟨h1,h2⟩:=hd
 have e0:dN d 0=d / 25 % 5:=rfl
 have e1:dN d 1=d / 5 % 5:=rfl
 have e2:dN d 2=d / 1 % 5:=rfl
 have key:∀ w n0,zen w n0=true->w=d / 125->n0=dN d 0->outC b d=0:=fun w n0 hr hw hn=>by
  have hr1:=rng_ok (rng_ok hr (dN d 1) (by omega)) (dN d 2) (by omega)
  have hsum:Nat.ble (n0+dN d 1+dN d 2) 4=true:=by rw[Nat.ble_eq];omega
  have hdd:125*w+25*n0+5*dN d 1+dN d 2=d:=by omega
  rw[hsum]at hr1
  have hr1:(Nat.beq (outC true (125*w+25*n0+5*dN d 1+dN d 2)) 0 && Nat.beq (outC false (125*w+25*n0+5*dN d 1+dN d 2)) 0)=true:=hr1
  rw[hdd]at hr1
  simp only[Bool.and_eq_true,Nat.beq_eq]at hr1
  cases b
  ·exact hr1.2
  ·exact hr1.1
 have hw:d / 125=0\/d / 125=1\/d / 125=2:=by omega
 have hn:dN d 0=0\/dN d 0=1\/dN d 0=2\/dN d 0=3\/dN d 0=4:=by omega
 rcases hw with hw | hw | hw <;> rcases hn with hn | hn | hn | hn | hn
 ·exact key 0 0 outC00 hw.symm hn.symm
 ·exact key 0 1 outC01 hw.symm hn.symm
 ·exact key 0 2 outC02 hw.symm hn.symm
 ·exact key 0 3 outC03 hw.symm hn.symm
 ·exact key 0 4 outC04 hw.symm hn.symm
 ·exact key 1 0 outC10 hw.symm hn.symm
 ·exact key 1 1 outC11 hw.symm hn.symm
 ·exact key 1 2 outC12 hw.symm hn.symm
 ·exact key 1 3 outC13 hw.symm hn.symm
 ·exact key 1 4 outC14 hw.symm hn.symm
 ·exact key 2 0 outC20 hw.symm hn.symm
 ·exact key 2 1 outC21 hw.symm hn.symm
 ·exact key 2 2 outC22 hw.symm hn.symm
 ·exact key 2 3 outC23 hw.symm hn.symm
 ·exact key 2 4 outC24 hw.symm hn.symm
theorem cancel_any {a:Int} (ha:I64 a) {r:Row} {D:Nat->Act} (hD:RowA r D) {W:World} (hW:W.heap[r.b]? = some (.cells r.cs r.t r.fz)) :
  Calls PP 3 #[.slice (some ⟨r.b,r.off,none⟩) r.len r.cap,.int .i64 a] W fun e w'=>e=.returned (.bool true)/\RowKit.Below W.heap.size W w':=by
 refine zrH (l:=zgJ) (kv:=fun _=>a) (lawC_ok ha) Tryz.func3 qcc w3 (st:=frC) (st2:=stB) (Inv2:=fun m j E=>∃ w,w<3/\InvB w m j E) (nx2:=nxE) (gT:=cxTC) (gE:=cxEC) (fun c n f' E hc hn h=>zoM h) (fun d fp fr E hd h=>zpX (zoM h)) (fun c n hc hn=>?_) (fun b d hd=>outC_ok hd b) (fun d fp fr E hd hz h=>?_) (fun m j E hI=>?_) inC_ok hD hW
 ·have hn:n=0:=by have:n<1:=hn;omega
  subst hn
  exact Nat.eq_of_beq_eq_true (rng_ok goC_ok c hc)
 ·have hd:dOk d=true:=hd
  have hw:dW d<3:=by
   unfold dOk at hd
   rw[Bool.and_eq_true,Nat.blt_eq]at hd
   show d / 125<3
   omega
  have hl:zj3 stB (InvB (dW d)) E (nxE d) 5:=lead_b hw (by omega) hz h.wm (by have:=h.wm';exact this) rfl (by omega)
  refine⟨5,fun hne=>?_⟩
  obtain⟨j',σ,m',E',h1,h2,h3,h4,h5⟩:=hl hne
  exact⟨j',σ,m',E',h1,h2,⟨_,hw,h3⟩,h4,h5⟩
 ·obtain⟨w,hw,f,f2,hz,w1,w2,h4,hc⟩:=hI
  rcases hc with ⟨rfl,rfl⟩ | ⟨k,s,hk,hs,rfl,hmk,hlive⟩
  ·exact⟨⟨[],[]⟩,_,gB' 4,yw (zgb (yw (hC0 E) 20) (zgb (yw (hC0 E) 20) (zga (es:=[]) (ps:=[]) (hC0 E) trivial (fun e he=>absurd he List.not_mem_nil)) (es:=zft 100 []) trivial) (es:=zft 200 []) trivial) 20,FaOk.nil,outB_ok,zbD⟩
  ·have hgo:=Nat.eq_of_beq_eq_true (rng_ok goB_ok (3*k+s) (by omega))
   have e1:Nat.div (3*k+s) 3=k:=by show (3*k+s) / 3=k;omega
   have e2:Nat.mod (3*k+s) 3=s:=by show (3*k+s) % 3=s;omega
   unfold goB at hgo
   rw[e1,e2]at hgo
   have hctx:gB' k=⟨zas (cxA [] ([thB k] ++ []) ([] ++ [])) 20,3,20000⟩:=by
    unfold gB'
    rw[show Nat.blt k 4=true by rw[Nat.blt_eq];exact hk];rfl
   have hl:zj3 stB (InvB w) E (nxB (Nat.succ k) (sgB (.v 4) [thB k])) m:=lead_b hw (by omega) hz hlive.wm w2 h4 (by omega)
   refine⟨⟨stF s,[]⟩,_,gB' k,?_,zm hlive.fs trivial,hgo,zcM fun hne=>?_⟩
   ·rw[hctx];exact yw (zoM hlive) 20
   ·obtain⟨j',σ,m',E',h1,h2,h3,h4,h5⟩:=hl hne
    exact⟨j',σ,m',E',h1,h2,⟨_,hw,h3⟩,h4,h5⟩
theorem nilC_ok:zX (fun w=>Nat.beq (zdT cx0 0 (puC [⟨9,[.si .i64 (.v 3)],eV' w⟩,⟨9,[.i .i64 0],eV' 0⟩,⟨9,[.i .i64 1],eV' 1⟩,⟨9,[.i .i64 2],eV' 2⟩] (zhU ab (zoT zgC))) 3 [.snil,.si .i64 (.v 3)] ⟨.h,.h,.e⟩ ⟨[],[]⟩ (endV (.b true))) 0) (rng 3)=true:=by decide +kernel
theorem cancel_nil {a:Int} (ha:I64 a) (W:World):Calls PP 3 #[.slice none 0 0,.int .i64 a] W fun e w'=>e=.returned (.bool true)/\RowKit.Below W.heap.size W w':=by
 obtain⟨E,hE⟩:∃ E:Env,E=⟨fun _=>a,fun _=>false,fun q=>zeB 8192 f0⟩:=⟨_,rfl⟩
 have i3:E.i 3=a:=by rw[hE]
 have hlt:=zbA (c:=a) (n:=3) (by omega)
 obtain⟨w,hwd⟩:∃ w:Nat,jn a 3=(w:Nat):=⟨(jn a 3).toNat,by omega⟩
 have hw:w<3:=by omega
 have hr:=Nat.eq_of_beq_eq_true (rng_ok nilC_ok w hw)
 have:=zb2 (hC0 E) (puC_ok (ps:=[⟨9,[.si .i64 (.v 3)],eV' w⟩,⟨9,[.i .i64 0],eV' 0⟩,⟨9,[.i .i64 1],eV' 1⟩,⟨9,[.i .i64 2],eV' 2⟩]) ⟨epw_pe i3 ha hwd hw,zf7 (w:=0) (by omega),zf7 (w:=1) (by omega),zf7 (w:=2) (by omega),trivial⟩ (msS_ok rfl abt FaOk.nil (zdV (zdJ E)) (zjW (zdV (zdJ E))))) FaOk.nil hr (l:=[.snil,.si .i64 (.v 3)]) ⟨trivial,trivial,trivial⟩ (fun _=>⟨0,0⟩) W
 have ha':(γL E (fun _=>⟨0,0⟩) [.snil,.si .i64 (.v 3)]).toArray=#[.slice none 0 0,.int .i64 a]:=by
  simp only[γL,V.γ,SE.den,i3]
 rw[ha']at this
 exact this.mono fun e w' h=>by
  obtain⟨⟨ρ',h1⟩,h2⟩:=h
  exact⟨h1,h2⟩
end Go.Ev.X
end
