import Derived.Test.YtcinokgfjdifbaaGreatJSt
import Derived.Test.YtcinokgfjdifbaaGreatMSp
import Derived.Test.YtcinokgfjdifbaaGreatMSr
import Derived.Test.YtcinokgfjdifbaaGreatE7
set_option linter.unusedSimpArgs false
set_option linter.unusedVariables false
set_option maxRecDepth 100000
noncomputable section
namespace Go.Ev.X
open Go Go.Ev Go.Proofs
variable {E:Env} {f f':Nat->Int} {t e:Nat} {L:Nat->List Nat} {Q:Nat->List Nat} {P:Nat->TV} {c:Nat} {S:Nat->Int}
def itrC (call:z3) (F:Nat):Option zlg:=bc (Nat.beq F 77) (some (itrT yc77 call 77 20000)) none
def wtC (call:z3):List V->H->Fa->K->Nat:=rfnT yc10 rs10 call 10 20000 (itrC call)
theorem itrC_ok {call:z3} (hc:zk E PP call):zpN E PP (itrC call):=by
 intro G it h
 unfold itrC at h
 cases e77':Nat.beq G 77 with
 | true=>
  rw[e77']at h
  have h:some (itrT yc77 call 77 20000)=some it:=h
  cases h
  have e:G=77:=by simpa using e77'
  subst e
  refine⟨Tryz.call77,fun s hand l h fa k hh hk hfa=>?_⟩
  have hy:=y77
  split at hy
  ·rename_i c hc'
   rw[<- hy]at hk
   exact itr_ok zaX hc Tryz.func77 hc' e77 s hand l h fa k hh hk hfa
  ·rename_i hc'
   exact absurd hc' (by have : Tryz.f77.body.isSome = true := by kernel_rfl
                        intro hn;rw[hn]at this;cases this)
 | false=>
 rw[e77']at h
 cases h
theorem wtC_ok {call:z3} (hc:zk E PP call):zk E PP (fun G l h fa k=>bc (Nat.beq G 10) (wtC call l h fa k) 1):=by
 have hy:=y10
 split at hy
 ·rename_i c hc'
  unfold wtC
  rw[<- hy]
  exact rfn_ok zaX hc (itrC_ok hc) Tryz.func10 Tryz.call10 hc' e10
 ·rename_i hc'
  exact absurd hc' (by have : Tryz.f10.body.isSome = true := by kernel_rfl
                       intro hn;rw[hn]at this;cases this)
def cxWt (C:Cx):Cx:=cxH C 10 (wtC (zaM C 20))
theorem zpy {C:Cx} (h:CxOk E PP (zX PP) C):CxOk E PP (zX PP) (cxWt C):=cxH_ok h (wtC_ok (jq h 20))
def runCw (c:MC) (sh:List Sh) (F:Nat) (l:List V) (fs:List (SB × Bool)) (v:V):Nat:=
 zaM (cxWt (cxI (zaM cx0 20) (cxM cx0 c 0 [] []) c 0 (zgj 0 sh))) 20 F (.ptr (.o .h) 0::l) (hMem c 0 .nil) ⟨fs,[]⟩ (okM c v sh.length .nil (sumS (.v 5) 0 sh))
theorem memC_cw {c:MC} (hN:c.N<=8192) {F:Nat} {sh:List Sh} {l:List V} {fs:List (SB × Bool)} {v:V} {args:List Value} {ret:Value} (hr:runCw c sh F l fs v=0) (hl:zcJ .h l=true)
  {vs:Nat->Int} {f f':Nat->Int} {K:Nat} (h:Chain PP c vs sh f f' K) (hfs:∀ E,AgV E vs->j8 E fs) (ha:∀ E,AgV E vs->∀ ρ,γL E ρ l=args) (hv:∀ E,AgV E vs->∀ ρ,v.γ E ρ=ret):zaO PP c F args f ret f' K:=by
 obtain⟨ks,rows,r0,r1,hall⟩:=zdY h 0
 rw[Nat.zero_add]at r1
 refine zck hN (zc1 (n:=.h) l hl) (fun i v _ hv=>by rw[Tr.get_nil]at hv;cases hv) (fun st=>?_) hr
 obtain⟨E,hE⟩:∃ E:Env,E=jA c.N st (fun i=>if i<9000 then vs i else (ks (i - 9000):Nat)) rows:=⟨_,rfl⟩
 have e5:E.i 5=st:=by rw[hE];rfl
 have eA:AgV E vs:=fun i h1 h2=>by
  rw[hE]
  show (if i=5 then st else if i<9000 then vs i else _)=_
  rw[if_neg h2,if_pos h1]
 have eW:∀ q,yo (E.s q).cs c.N (rows q):=fun q=>by rw[hE];exact jU _ _
 obtain⟨g1,g2⟩:=hall E eA (fun j _ _=>by
  rw[hE]
  show (if 9000+j=5 then st else if 9000+j<9000 then vs (9000+j) else ((ks (9000+j - 9000):Nat):Int))=_
  rw[if_neg (by omega),if_neg (by omega),show 9000+j - 9000=j from by omega]) (fun j _ _=>eW j)
 refine⟨E,e5,?_,jq (zpy (zk4 (jq (hC0 E) 20) (zhW (es:=[]) (ps:=[]) (hC0 E) trivial fun e he=>by cases he) g1)) 20,zm (hfs E eA) trivial,zcC (by have:=eW 0;rw[r0]at this;exact this),zcC (by have:=eW sh.length;rw[r1]at this;exact this),ha E eA,hv E eA⟩
 have:=g2 (.v 5) 0 st (by show E.i 5=za9 st 0;rw[e5];rfl)
 rw[Nat.zero_add]at this
 exact this
structure Sf where
 sd:Sd
 lv:Nat
 wk:Nat
 fr:Nat
 ca:Nat
 cb:Nat
 run:List Sh->Nat->List V->List (SB × Bool)->V->Nat
structure SfOk (s:Sf):Prop where
 sd:SdOk s.sd
 lv:∀ {f:Nat->Int} {Q:Nat->List Nat} {P:Nat->TV} {c:Nat} {L:Nat->List Nat} {S:Nat->Int} {e t:Nat} {a b:List Nat},EInv T4 EpA f Q P c L S->EpA e->L e=a ++ t::b->zJ PP s.sd.c s.lv [.int .i64 t] f (.tuple #[]) (yX f e t)
 wk:∀ {f:Nat->Int} {Q:Nat->List Nat} {P:Nat->TV} {c:Nat} {L:Nat->List Nat} {S:Nat->Int} {t:Nat},EInv T4 EpA f Q P c L S->Fre T4 EpA L t->zJ PP s.sd.c s.wk [.int .i64 t] f (.tuple #[]) (zc6 f t)
 run:∀ {F:Nat} {sh:List Sh} {l:List V} {fs:List (SB × Bool)} {v:V} {args:List Value} {ret:Value} {vs:Nat->Int} {f f':Nat->Int},s.run sh F l fs v=0->zcJ .h l=true->sh≠[]->Chn s.sd.c vs sh f f'->(∀ E,AgV E vs->j8 E fs)->(∀ E,AgV E vs->∀ ρ,γL E ρ l=args)->(∀ E,AgV E vs->∀ ρ,v.γ E ρ=ret)->zJ PP s.sd.c F args f ret f'
def sfP:Sf:=⟨sdP,21,28,36,11,16,fun sh F l fs v=>runCw cP sh F l fs v⟩
def sfR:Sf:=⟨sdR,26,29,69,30,32,fun sh F l fs v=>zea cx0 cR sh [] F l fs v⟩
theorem znH:SfOk sfP:=⟨yJ,fun h he hab=>zpd h he hab,fun h ht=>zoH h.ss ht,fun {F sh l fs v args ret vs f f'} hr hl hne h hfs ha hv=>by
 obtain⟨K,h⟩:=h
 refine⟨K,?_,memC_cw (by decide) hr hl h hfs ha hv⟩
 cases h with
 | nil=>exact absurd rfl hne
 | cons h1 _ _ _ _=>omega⟩
theorem znG:SfOk sfR:=⟨yB,fun h he hab=>zpc h he hab,fun h ht=>zoG h.ss ht,fun hr hl hne h hfs ha hv=>zbs yB hr hl hne h hfs ha hv⟩
def zcb (f:Nat->Int) (e t:Nat):Nat->Int:=if (za (yX f e t) t).fk=0 then zc6 (yX f e t) t else yX f e t
theorem zmH (h:EInv T4 EpA f Q P c L S) (he:EpA e) {a b:List Nat} (hab:L e=a ++ t::b):Fre T4 EpA (za3 L e (a ++ b)) t:=by
 have htm:t∈L e:=by rw[hab];simp
 refine⟨(h.w e t he htm).1,?_⟩
 rintro ⟨e',he',hm⟩
 by_cases e2:e'=e
 ·subst e2
  rw[zP]at hm
  have hnd:=h.nd e' he
  rw[hab]at hnd
  obtain⟨na,nb,nab⟩:=List.nodup_append.1 hnd
  rcases List.mem_append.1 hm with h1 | h1
  ·exact nab t h1 t (by simp) rfl
  ·exact(List.nodup_cons.1 nb).1 h1
 ·rw[zQ _ _ e2]at hm
  exact e2 (h.dj e' e t he' he hm htm)
theorem zkO (h:EInv T4 EpA f Q P c L S) (he:EpA e) {a b:List Nat} (hab:L e=a ++ t::b):∃ Q' P',EInv T4 EpA (zcb f e t) Q' P' c (za3 L e (a ++ b)) S/\∀ u,u≠t->P' u=P u:=by
 have h1:=zgC z5 ze8 h he hab
 have hf:=zmH h he hab
 unfold zcb
 split
 ·obtain⟨Q',h2⟩:=wake_E z5 ze8 h1 hf
  exact⟨Q',_,h2,fun u hu=>by rw[yH _ _ hu,yH _ _ hu]⟩
 ·exact⟨_,_,h1,fun u hu=>yH _ _ hu⟩
def shF (s:Sf) (k:Bool):List Sh:=⟨s.lv,[vt],.tup []⟩::rdT s.sd.rt vt 100::(bif k then [⟨s.wk,[vt],.tup []⟩] else [])
def fsF (k:Bool):List (SB × Bool):=[(.cmp .eql (.v 112) (.lit 0),k)]
theorem zmG:zW (fun k=>Nat.beq (sfP.run (shF sfP k) 36 [vt] (fsF k) (.tup [])) 0 && Nat.beq (sfR.run (shF sfR k) 69 [vt] (fsF k) (.tup [])) 0) zbE=true:=by decide +kernel
theorem free_c {s:Sf} (hs:SfOk s) (zr:∀ k,s.run (shF s k) s.fr [vt] (fsF k) (.tup [])=0) (h:EInv T4 EpA f Q P c L S) (he:EpA e) {a b:List Nat} (hab:L e=a ++ t::b):zJ PP s.sd.c s.fr [.int .i64 t] f (.tuple #[]) (zcb f e t):=by
 have h1:=zgC z5 ze8 h he hab
 have hf:=zmH h he hab
 have hr:=zaq h1 hf.1
 obtain⟨g,hg⟩:∃ g,g=yX f e t:=⟨_,rfl⟩
 obtain⟨vs,hvs⟩:∃ vs,vs=vsL t (za g t) (zp g t) 0 (za f t) (zp f t) (za f t) (zp f t):=⟨_,rfl⟩
 have tl1:TlB vs 100 (za g t) (zp g t):=by rw[hvs];exact tlL1
 have a1:∀ E,AgV E vs->∀ ρ,vt.γ E ρ=.int .i64 t:=zaE (by omega) (by omega) (by rw[hvs];rfl)
 have fk:∀ E,AgV E vs->E.i 112=(za g t).fk:=fun E hE=>z4 tl1 hE (j:=12) (by omega)
 have hlv:=hs.lv h he hab
 unfold zcb
 rw[<- hg]at h1 hr hlv ⊢
 by_cases h0:(za g t).fk=0
 ·rw[if_pos h0]
  exact hs.run (zr true) rfl (by simp[shF]) (vs:=vs) (zan hlv (fun E hE ρ=>jQ (a1 E hE ρ)) (fun E hE ρ=>rfl) (zaJ hs.sd hf.1 hr a1 tl1 (zan (hs.wk h1 hf) (fun E hE ρ=>jQ (a1 E hE ρ)) (fun E hE ρ=>rfl) (z7 _)))) (fun E hE=>⟨zal (by show E.i 112=0;rw[fk E hE];exact h0),trivial⟩) (fun E hE ρ=>jQ (a1 E hE ρ)) (fun E hE ρ=>rfl)
 ·rw[if_neg h0]
  exact hs.run (zr false) rfl (by simp[shF]) (vs:=vs) (zan hlv (fun E hE ρ=>jQ (a1 E hE ρ)) (fun E hE ρ=>rfl) (zaJ hs.sd hf.1 hr a1 tl1 (z7 _))) (fun E hE=>⟨yM (by show E.i 112≠0;rw[fk E hE];exact h0),trivial⟩) (fun E hE ρ=>jQ (a1 E hE ρ)) (fun E hE ρ=>rfl)
theorem zpr:∀ k,sfP.run (shF sfP k) 36 [vt] (fsF k) (.tup [])=0:=fun k=>by
 have:=zt zmG k (zbN k)
 simp only[Bool.and_eq_true]at this
 exact Nat.eq_of_beq_eq_true this.1
theorem zpq:∀ k,sfR.run (shF sfR k) 69 [vt] (fsF k) (.tup [])=0:=fun k=>by
 have:=zt zmG k (zbN k)
 simp only[Bool.and_eq_true]at this
 exact Nat.eq_of_beq_eq_true this.2
end Go.Ev.X
end
