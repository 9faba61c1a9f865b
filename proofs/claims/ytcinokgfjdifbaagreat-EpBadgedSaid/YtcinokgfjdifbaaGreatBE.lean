import Derived.Test.YtcinokgfjdifbaaGreatBQy
import Derived.Test.YtcinokgfjdifbaaGreatBQ0
import Derived.Test.YtcinokgfjdifbaaGreatBQ1
import Derived.Test.YtcinokgfjdifbaaGreatBQ2
set_option linter.unusedSimpArgs false
set_option linter.unusedVariables false
set_option maxRecDepth 100000
noncomputable section
namespace Go.Ev.X
open Go Go.Ev Go.Proofs
variable {E:Env} {f fp g:Nat->Int} {L L':Nat->List Nat} {Q:Nat->List Nat} {P:Nat->TV} {c:Nat} {S:Nat->Int}
theorem zhF:∀ {p:List Bool} {i:Nat},∀ k∈zaK i p,i<=k/\k<i+p.length
 | [],i,k,h=>by cases h
 | true::p,i,k,h=>by
  have:=zhF (p:=p) (i:=i+1) k h
  simp only[List.length_cons];omega
 | false::p,i,k,h=>by
  rcases List.mem_cons.1 h with rfl | h
  ·simp only[List.length_cons];omega
  ·have:=zhF (p:=p) (i:=i+1) k h
   simp only[List.length_cons];omega
theorem zji {p:List Bool}:∀ {i:Nat},(zaK i p).length<=p.length:=by
 induction p with
 | nil=>intro i;simp[zaK]
 | cons b p ih=>
  intro i
  cases b
  ·show (zaK (i+1) p).length+1<=p.length+1
   have:=ih (i:=i+1);omega
  ·show (zaK (i+1) p).length<=p.length+1
   have:=ih (i:=i+1);omega
def hitP (P:Nat->TV) (bd:Int) (l:List Nat):List Bool:=l.map fun x=>decide ((P x).bd=bd)
theorem zi1 {bd:Int} {l:List Nat}:∀ {r:List Nat} {i:Nat},l.drop i=r->zaf P bd r=(zaK i (hitP P bd r)).map fun k=>l.getD k 0
 | [],i,_=>rfl
 | x::r,i,h=>by
  have hx:l.getD i 0=x:=by
   have:l[i]? = some x:=by
    have:=congrArg (fun q=>q[0]?) h
    simp only[List.getElem?_drop]at this
    simpa using this
   rw[List.getD_eq_getElem?_getD,this];rfl
  have hr:l.drop (i+1)=r:=by
   rw[<- List.drop_drop,h];rfl
  have ih:=zi1 (bd:=bd) hr
  by_cases hb:(P x).bd=bd
  ·show (List.filter _ (x::r))=(zaK i (decide ((P x).bd=bd)::hitP P bd r)).map _
   rw[List.filter_cons_of_neg (by simp[hb]),decide_eq_true hb]
   exact ih
  ·show (List.filter _ (x::r))=(zaK i (decide ((P x).bd=bd)::hitP P bd r)).map _
   rw[List.filter_cons_of_pos (by simp[hb]),decide_eq_false hb]
   show x::zaf P bd r=l.getD i 0::(zaK (i+1) (hitP P bd r)).map _
   rw[hx,ih]
theorem zjh:∀ (n i:Nat),zaK i (zkn n)=zb1 i n
 | 0,i=>rfl
 | n+1,i=>by
  show i::zaK (i+1) (zkn n)=i::zb1 (i+1) n
  rw[zjh n (i+1)]
theorem zl4:∀ n:Nat,(zkn n).length=n
 | 0=>rfl
 | n+1=>by show (zkn n).length+1=n+1;rw[zl4 n]
theorem znk (l:List Nat):∀ (m i:Nat),i+m=l.length->(zb1 i m).map (fun k=>l.getD k 0)=l.drop i
 | 0,i,h=>by rw[List.drop_eq_nil_of_le (by omega)];rfl
 | m+1,i,h=>by
  show l.getD i 0::(zb1 (i+1) m).map _=_
  rw[znk l m (i+1) (by omega),List.getD_eq_getElem?_getD,List.getElem?_eq_getElem (by omega)]
  exact(List.drop_eq_getElem_cons (by omega)).symm
theorem bdF_ok {w:Nat} {bd:Int} (h4:E.i 4=bd):∀ {r:List Nat} {i:Nat},(∀ k,k<r.length->E.i (1000+200*w+40*(i+k)+7)=(P (r.getD k 0)).bd)->j8 E (bdF w i (hitP P bd r))
 | [],i,_=>trivial
 | x::r,i,h=>by
  refine⟨?_,bdF_ok h4 fun k hk=>?_⟩
  ·have h0:=h 0 (by simp)
   have h0:E.i (1000+200*w+40*i+7)=(P x).bd:=h0
   by_cases hb:(P x).bd=bd
   ·show _ = !decide ((P x).bd=bd)
    rw[decide_eq_true hb]
    exact yu (by show E.i (1000+200*w+40*i+7)=E.i 4;rw[h0,h4,hb])
   ·show _ = !decide ((P x).bd=bd)
    rw[decide_eq_false hb]
    exact j7 (by show E.i (1000+200*w+40*i+7)≠E.i 4;rw[h0,h4];exact hb)
  ·have:=h (k+1) (by simp only[List.length_cons];omega)
   rw[show i+(k+1)=i+1+k from by omega]at this
   exact this
theorem eqB_ok {w:Nat} {l l':List Nat} (h1:∀ j,j<l'.length->(symB (1600+200*w) (731+10*w) j).den E=(l'.getD j 0:Nat)) (h2:∀ k,k<l.length->(symB (1000+200*w) (701+10*w) k).den E=(l.getD k 0:Nat)):∀ {ks:List Nat} {j:Nat},(∀ k∈ks,k<l.length)->l'.drop j=ks.map (fun k=>l.getD k 0)->j8 E (eqB w j ks)
 | [],j,_,_=>trivial
 | k::ks,j,hk,hd=>by
  have hj:l'[j]? = some (l.getD k 0):=by
   have:=congrArg (fun q=>q[0]?) hd
   simp only[List.getElem?_drop]at this
   simpa using this
  have hjl:j<l'.length:=(List.getElem?_eq_some_iff.1 hj).1
  refine⟨yu ?_,eqB_ok h1 h2 (fun k' hk'=>hk k' (by simp[hk'])) ?_⟩
  ·rw[h1 j hjl,h2 k (hk k (by simp)),List.getD_eq_getElem?_getD,hj];rfl
  ·rw[<- List.drop_drop,hd];rfl
theorem mem_pat {k:Bool} {p:List Bool} (h:(k=false/\∃ n,n<5/\p=zkn n)\/(k=true/\1<=p.length/\p.length<=4)):∃ i,i<35/\patL.getD i (false,[])=(k,p):=by
 have hm:(k,p)∈patL:=by
  rcases h with ⟨rfl,n,hn,rfl⟩ | ⟨rfl,h1,h2⟩
  ·exact List.mem_append.2 (.inl (List.mem_map.2 ⟨n,jO (by omega) (by omega),rfl⟩))
  ·refine List.mem_append.2 (.inr (List.mem_map.2 ⟨p,?_,rfl⟩))
   have hp:=zeX p
   have:p.length=1\/p.length=2\/p.length=3\/p.length=4:=by omega
   rcases this with e | e | e | e <;> rw[e]at hp
   ·exact List.mem_append.2 (.inl hp)
   ·exact List.mem_append.2 (.inr (List.mem_append.2 (.inl hp)))
   ·exact List.mem_append.2 (.inr (List.mem_append.2 (.inr (List.mem_append.2 (.inl hp)))))
   ·exact List.mem_append.2 (.inr (List.mem_append.2 (.inr (List.mem_append.2 (.inr hp)))))
 obtain⟨i,hi⟩:=List.mem_iff_getElem?.1 hm
 have hl:patL.length=35:=by decide +kernel
 have:=(List.getElem?_eq_some_iff.1 hi).1
 exact⟨i,by omega,by rw[List.getD_eq_getElem?_getD,hi];rfl⟩
theorem endD_ok {kv:Nat->Int} (hkv:I64 (kv 3)):EndOk zfD kv:=fun f base hf hk=>by
 obtain⟨Q,P,c,L,S,h⟩:=hf
 have hk3:base 3=kv 3:=hk 3 (by simp[zfD])
 have hk4:base 4=kv 4:=hk 4 (by simp[zfD])
 have hlt:=zbx (c:=kv 3) (n:=3) (by omega)
 obtain⟨w,hwd⟩:∃ w:Nat,jk (kv 3) 3=(w:Nat):=⟨(jk (kv 3) 3).toNat,by omega⟩
 have hw:w<3:=by omega
 have hep:=epN_e hw
 obtain⟨w1,w2,w3,w4,w5⟩:=jB z5 h hep
 have hn4:=len4 (h.nd _ hep) fun u hu=>(h.w _ u hep hu).1
 -- what happens: the words,the lists,the case
 obtain⟨fp,Q',P',L',k,p,h',hcall,hL',hp,hpl,hst,hbd⟩:∃ (fp:Nat->Int) (Q':Nat->List Nat) (P':Nat->TV) (L':Nat->List Nat) (k:Bool) (p:List Bool),EInv T4 EpA fp Q' P' c L' S/\zJ PP cP 16 [.int .i64 (epN w:Nat),.int .i64 (kv 4)] f (.tuple #[]) fp/\L' (epN w)=(zaK 0 p).map (fun k=>(L (epN w)).getD k 0)/\((k=false/\∃ n,n<5/\p=zkn n)\/(k=true/\1<=p.length/\p.length<=4))/\p.length=(L (epN w)).length/\decide (stQ (f (epN w))=1)=k/\(k=true->p=hitP P (kv 4) (L (epN w))):=by
  by_cases hn:L (epN w)=[]\/S (epN w)=2
  ·refine⟨f,Q,P,L,false,zkn (L (epN w)).length,h,zm9 h hep hn _,?_,.inl ⟨rfl,_,by omega,rfl⟩,zl4 _,?_,fun h=>by cases h⟩
   ·rw[zjh,znk _ _ 0 (by omega)];rfl
   ·refine decide_eq_false ?_
    rw[w1]
    split
    ·omega
    ·rename_i h0;rw[hn.resolve_left h0];omega
  ·have hne:L (epN w)≠[]:=fun e0=>hn (.inl e0)
   have hS:S (epN w)=1:=(h.s _ hep).resolve_right fun e0=>hn (.inr e0)
   obtain⟨Q',P',h',_⟩:=zpC hep (bd:=kv 4) (r:=L (epN w)) (kept:=[]) h rfl
   have hl0:(L (epN w)).length≠0:=fun e0=>hne (List.length_eq_zero_iff.1 e0)
   have hl:(hitP P (kv 4) (L (epN w))).length=(L (epN w)).length:=List.length_map ..
   refine⟨_,Q',P',_,true,hitP P (kv 4) (L (epN w)),h',zpA h hep hne hS _,?_,.inr ⟨rfl,by omega,by omega⟩,hl,?_,fun _=>rfl⟩
   ·rw[zP]
    exact zi1 rfl
   ·refine decide_eq_true ?_
    rw[w1,if_neg hne];exact hS
 obtain⟨i,hi,hci⟩:=mem_pat hp
 have hl':(L' (epN w)).length=(zaK 0 p).length:=by rw[hL',List.length_map]
 have hkl:=zji (p:=p) (i:=0)
 obtain⟨d,hd⟩:∃ d,d=64*w+i:=⟨_,rfl⟩
 have d0:bW d=w:=by show d / 64=w;omega
 have d1:d % 64=i:=by omega
 have d2:bC d=(k,p):=by show patL.getD (d % 64) (false,[])=_;rw[d1];exact hci
 obtain⟨r1,r2,r3,r4⟩:=rd_ch (vs:=vsE base f fp L L') h hw (q:=700+10*w) (B:=1000+200*w) (by omega) (zd7 hw).1 (by rw[show 700+10*w+1=701+10*w from by omega];exact(zd7 hw).2.1) (by rw[show 700+10*w+2=702+10*w from by omega];exact(zd7 hw).2.2.1) fun i hi=>(vsE_t hw (by omega)).1
 obtain⟨s1,s2,s3,s4⟩:=rd_ch (vs:=vsE base f fp L L') h' hw (q:=730+10*w) (B:=1600+200*w) (by omega) (zd7 hw).2.2.2.1 (by rw[show 730+10*w+1=731+10*w from by omega];exact(zd7 hw).2.2.2.2.1) (by rw[show 730+10*w+2=732+10*w from by omega];exact(zd7 hw).2.2.2.2.2) fun i hi=>(vsE_t hw (by omega)).2
 rw[show 700+10*w+1=701+10*w from by omega]at r1 r2 r3 r4
 rw[show 730+10*w+1=731+10*w from by omega]at s1 s2 s3 s4
 have rl:=zn2 yJ r2 (h.lk _ hep) (fun u hu=>(h.w _ u hep hu).1) (fun u hu=>(h.w _ u hep hu).2.1) (L (epN w)).length 0 (by omega)
 have rq:∀ {zaf:List Sh} {f':Nat->Int},Chn cP (vsE base f fp L L') zaf f f'->Chn cP (vsE base f fp L L') (zcr 15 (eV' w) (700+10*w)::zaf) f f':=fun hr=>zbD yJ hep (zbL h hep) (fun E _ ρ=>rfl) (by omega) (zd7 hw).1 (by rw[show 700+10*w+1=701+10*w from by omega];exact(zd7 hw).2.1) (by rw[show 700+10*w+2=702+10*w from by omega];exact(zd7 hw).2.2.1) hr
 refine⟨d,fp,?_,trivial,vsE base f fp L L',fun i hi=>if_pos hi,?_,z7 _,z7 _,z7 _,fun E hE=>?_⟩
 ·show (Nat.blt d 192 && Nat.blt (d % 64) 35)=true
  rw[Bool.and_eq_true,Nat.blt_eq,Nat.blt_eq];omega
 ·show Chn cP _ (shD (bW d) (bC d).2) f fp
  rw[d0,d2]
  have i4:∀ E,AgV E (vsE base f fp L L')->E.i 4=kv 4:=fun E hE=>(hE 4 (by omega) (by omega)).trans hk4
  show Chn cP _ ((zcr 15 (eV' w) (700+10*w)::zcr 15 (eV' w) (700+10*w)::(lsB (1000+200*w) 13 (701+10*w) p.length ++ lsB (1000+200*w) 13 (701+10*w) p.length)) ++ (cl 16 [eV' w,.si .i64 (.v 4)]::shB2 w (zaK 0 p).length)) f fp
  rw[hpl]
  refine zbu (rq (rq (zbu rl rl))) (zcH hcall (fun E hE ρ=>yY rfl (vsi (i4 E hE))) ?_)
  unfold shB2
  rw[<- hl']
  exact s1
 ·have i3:E.i 3=kv 3:=(hE 3 (by omega) (by omega)).trans hk3
  have i4:E.i 4=kv 4:=(hE 4 (by omega) (by omega)).trans hk4
  constructor
  ·show PsOk PP E (psD (bW d))
   rw[d0]
   exact⟨epw_pe i3 hkv hwd hw,trivial⟩
  ·show j8 E (fsD (bW d) (bC d).1 (bC d).2)
   rw[d0,d2]
   have q0:E.i (700+10*w)=stQ (f (epN w)):=(hE _ (by omega) (by omega)).trans (zd7 hw).1
   refine⟨?_,jS ?_ (jS ?_ (jS ?_ ?_))⟩
   ·show (SB.cmp .neq (.v (700+10*w)) (.lit 1)).den E = !k
    rw[<- hst]
    by_cases e:stQ (f (epN w))=1
    ·rw[decide_eq_true e];exact yu (by show E.i (700+10*w)=1;rw[q0,e])
    ·rw[decide_eq_false e];exact j7 (by show E.i (700+10*w)≠1;rw[q0];exact e)
   ·show j8 E (lsBF (1000+200*w) (701+10*w) p.length)
    rw[hpl];exact r3 E hE
   ·show j8 E (lsBF (1600+200*w) (731+10*w) (zaK 0 p).length)
    rw[<- hl'];exact s3 E hE
   ·show j8 E (bif k then bdF w 0 p else [])
    cases hkk:k with
    | false=>exact trivial
    | true=>
     have hpp:=hbd hkk
     show j8 E (bdF w 0 p)
     rw[hpp]
     refine bdF_ok i4 fun j hj=>?_
     have tl:=(vsE_t (base:=base) (f:=f) (g:=fp) (L:=L) (L':=L') hw (show j<4 by omega)).1
     have hm:=zbC hj
     obtain⟨_,_,hct,_⟩:=h.w _ _ hep hm
     rw[Nat.zero_add,z4 tl hE (j:=7) (by omega),<- hct];rfl
   ·show j8 E (eqB w 0 (zaK 0 p))
    exact eqB_ok (l:=L (epN w)) (l':=L' (epN w)) (fun j hj=>s4 E hE j hj) (fun j hj=>r4 E hE j hj) (fun k hk=>by have:=zhF k hk;omega) hL'
theorem lawD_ok {kv:Nat->Int} (hkv:I64 (kv 3)):LawOk zfD kv:=by
 refine⟨by decide,fun i hi=>by simpa [zfD] using hi,fun n hn=>⟨by show 0<=70;omega,by show 0<=70;omega⟩,fun d hd=>?_,fun f x hf=>⟨0,fun _=>0,by decide,fun vs _ _=>⟨z7 f,z7 f,fun _ _=>trivial⟩⟩,endD_ok hkv⟩
 have ll:∀ {B F h n},(lsB B F h n).length=n:=fun {B F h n}=>by
  unfold lsB rng
  rw[List.length_map]
  have:∀ m i,(zb1 i m).length=m:=fun m=>by
   induction m with
   | zero=>intro i;rfl
   | succ m ih=>intro i;show (zb1 (i+1) m).length+1=m+1;rw[ih]
  exact this n 0
 have hd:bOk d=true:=hd
 unfold bOk at hd
 rw[Bool.and_eq_true,Nat.blt_eq,Nat.blt_eq]at hd
 have h4:(bC d).2.length<=4:=by
  have hr:zW (fun i=>Nat.ble (patL.getD i (false,[])).2.length 4) (rng 35)=true:=by decide +kernel
  have:=rng_ok hr _ hd.2
  rw[Nat.ble_eq]at this
  exact this
 show (shD (bW d) (bC d).2).length<=70
 unfold shD shB1 shB2
 simp only[List.length_append,List.length_cons,ll]
 have:=zji (p:=(bC d).2) (i:=0)
 omega
theorem outD_ok {d:Nat} (hd:bOk d=true) (b:Bool):outD b d=0:=by
 unfold bOk at hd
 rw[Bool.and_eq_true,Nat.blt_eq,Nat.blt_eq]at hd
 have hd:d<192/\d % 64<35:=hd
 have key:∀ w,allD w=true->w=d / 64->outD b d=0:=fun w hr hw=>by
  have:=rng_ok hr (d % 64) hd.2
  rw[show 64*w+d % 64=d from by omega]at this
  simp only[Bool.and_eq_true,Nat.beq_eq]at this
  cases b
  ·exact this.2
  ·exact this.1
 have hw:d / 64=0\/d / 64=1\/d / 64=2:=by omega
 rcases hw with hw | hw | hw
 ·exact key 0 outD0 hw.symm
 ·exact key 1 outD1 hw.symm
 ·exact key 2 outD2 hw.symm
theorem badged_any {a b:Int} (ha:I64 a) (hb:I64 b) {r:Row} {D:Nat->Act} (hD:RowA r D) {W:World} (hW:W.heap[r.b]? = some (.cells r.cs r.t r.fz)) :
  Calls PP 4 #[.slice (some ⟨r.b,r.off,none⟩) r.len r.cap,.int .i64 a,.int .i64 b] W fun e w'=>e=.returned (.bool true)/\RowKit.Below W.heap.size W w':=
 zu6 (l:=zfD) (kv:=fun i=>if i=3 then a else b) (lawD_ok (by exact ha)) Tryz.func4 qcb w4 (st:=frD) (gT:=cxTD) (gE:=cxED) (fun c n f' E hc hn h=>cxA_ok h) (fun d fp fr E hd h=>zpy (cxA_ok h)) (fun c n hc hn=>by
  have hn:n=0:=by have:n<1:=hn;omega
  subst hn
  exact Nat.eq_of_beq_eq_true (rng_ok goD_ok c hc)) (fun b d hd=>outD_ok hd b) inD_ok hD hW
theorem nilD_ok:zW (fun w=>Nat.beq (zdG cx0 0 (puC [⟨9,[.si .i64 (.v 3)],eV' w⟩] (zhy ab (zow zga))) 4 [.snil,.si .i64 (.v 3),.si .i64 (.v 4)] ⟨.h,.h,.e⟩ ⟨[],[]⟩ (endV (.b true))) 0) (rng 3)=true:=by decide +kernel
theorem badged_nil {a b:Int} (ha:I64 a) (hb:I64 b) (W:World):Calls PP 4 #[.slice none 0 0,.int .i64 a,.int .i64 b] W fun e w'=>e=.returned (.bool true)/\RowKit.Below W.heap.size W w':=by
 obtain⟨E,hE⟩:∃ E:Env,E=⟨fun i=>if i=3 then a else b,fun _=>false,fun q=>zej 8192 f0⟩:=⟨_,rfl⟩
 have i3:E.i 3=a:=by rw[hE];rfl
 have i4:E.i 4=b:=by rw[hE];rfl
 have hlt:=zbx (c:=a) (n:=3) (by omega)
 obtain⟨w,hwd⟩:∃ w:Nat,jk a 3=(w:Nat):=⟨(jk a 3).toNat,by omega⟩
 have hw:w<3:=by omega
 have hr:=Nat.eq_of_beq_eq_true (rng_ok nilD_ok w hw)
 have:=zcL (hC0 E) (puC_ok (ps:=[⟨9,[.si .i64 (.v 3)],eV' w⟩]) ⟨epw_pe i3 ha hwd hw,trivial⟩ (msS_ok rfl abt FaOk.nil (zdH (zdv E)) (zjA (zdH (zdv E))))) FaOk.nil hr (l:=[.snil,.si .i64 (.v 3),.si .i64 (.v 4)]) ⟨trivial,trivial,trivial,trivial⟩ (fun _=>⟨0,0⟩) W
 have ha':(γL E (fun _=>⟨0,0⟩) [.snil,.si .i64 (.v 3),.si .i64 (.v 4)]).toArray=#[.slice none 0 0,.int .i64 a,.int .i64 b]:=by
  simp only[γL,V.γ,SE.den,i3,i4]
 rw[ha']at this
 exact this.mono fun e w' h=>by
  obtain⟨⟨ρ',h1⟩,h2⟩:=h
  exact⟨h1,h2⟩
end Go.Ev.X
end
