import Derived.Test.YtcinokgfjdifbaaGreatJSt
import Derived.Test.YtcinokgfjdifbaaGreatMSp
import Derived.Test.YtcinokgfjdifbaaGreatMSr
import Derived.Test.YtcinokgfjdifbaaGreatE7
set_option linter.unusedSimpArgs false
set_option linter.unusedVariables false
set_option maxRecDepth 100000
noncomputable section
namespace Go.Ev.X
open Go Go.Ev Go.Proofs
variable {E:Env} {f f':Nat->Int} {t e:Nat} {L:Nat->List Nat} {Q:Nat->List Nat} {P:Nat->TV} {c:Nat} {S:Nat->Int}
def itrC (call:z5) (F:Nat):Option zlF:=bc (Nat.beq F 77) (some (itrT yc77 call 77 20000)) none
def wtC (call:z5):List V->H->Fa->K->Nat:=rfnT yc10 rs10 call 10 20000 (itrC call)
theorem itrC_ok {call:z5} (hc:zk E PP call):zqa E PP (itrC call):=by
 intro G it h
 unfold itrC at h
 cases e77':Nat.beq G 77 with
 | true=>
  rw[e77']at h
  have h:some (itrT yc77 call 77 20000)=some it:=h
  cases h
  have e:G=77:=by simpa using e77'
  subst e
  refine⟨Tryz.call77,fun s hand l h fa k hh hk hfa=>?_⟩
  have hy:=y77
  split at hy
  ·rename_i c hc'
   rw[<- hy]at hk
   exact itr_ok za0 hc Tryz.func77 hc' e77 s hand l h fa k hh hk hfa
  ·rename_i hc'
   exact absurd hc' (by have : Tryz.f77.body.isSome = true := by kernel_rfl
                        intro hn;rw[hn]at this;cases this)
 | false=>
 rw[e77']at h
 cases h
theorem wtC_ok {call:z5} (hc:zk E PP call):zk E PP (fun G l h fa k=>bc (Nat.beq G 10) (wtC call l h fa k) 1):=by
 have hy:=y10
 split at hy
 ·rename_i c hc'
  unfold wtC
  rw[<- hy]
  exact rfn_ok za0 hc (itrC_ok hc) Tryz.func10 Tryz.call10 hc' e10
 ·rename_i hc'
  exact absurd hc' (by have : Tryz.f10.body.isSome = true := by kernel_rfl
                       intro hn;rw[hn]at this;cases this)
def cxWt (C:Cx):Cx:=cxH C 10 (wtC (zas C 20))
theorem zpX {C:Cx} (h:CxOk E PP (zW PP) C):CxOk E PP (zW PP) (cxWt C):=cxH_ok h (wtC_ok (yw h 20))
def runCw (c:MC) (sh:List Sh) (F:Nat) (l:List V) (fs:List (SB × Bool)) (v:V):Nat:=
 zas (cxWt (cxI (zas cx0 20) (cxM cx0 c 0 [] []) c 0 (zft 0 sh))) 20 F (.ptr (.o .h) 0::l) (hMem c 0 .nil) ⟨fs,[]⟩ (okM c v sh.length .nil (sumS (.v 5) 0 sh))
theorem memC_cw {c:MC} (hN:c.N<=8192) {F:Nat} {sh:List Sh} {l:List V} {fs:List (SB × Bool)} {v:V} {args:List Value} {ret:Value} (hr:runCw c sh F l fs v=0) (hl:zcA .h l=true)
  {vs:Nat->Int} {f f':Nat->Int} {K:Nat} (h:Chain PP c vs sh f f' K) (hfs:∀ E,AgV E vs->zaQ E fs) (ha:∀ E,AgV E vs->∀ ρ,γL E ρ l=args) (hv:∀ E,AgV E vs->∀ ρ,v.γ E ρ=ret):zaR PP c F args f ret f' K:=by
 obtain⟨ks,rows,r0,r1,hall⟩:=zef h 0
 rw[Nat.zero_add]at r1
 refine zcq hN (zde (n:=.h) l hl) (fun i v _ hv=>by rw[Tr.get_nil]at hv;cases hv) (fun st=>?_) hr
 obtain⟨E,hE⟩:∃ E:Env,E=jC c.N st (fun i=>if i<9000 then vs i else (ks (i - 9000):Nat)) rows:=⟨_,rfl⟩
 have e5:E.i 5=st:=by rw[hE];rfl
 have eA:AgV E vs:=fun i h1 h2=>by
  rw[hE]
  show (if i=5 then st else if i<9000 then vs i else _)=_
  rw[if_neg h2,if_pos h1]
 have eW:∀ q,z8 (E.s q).cs c.N (rows q):=fun q=>by rw[hE];exact jY _ _
 obtain⟨g1,g2⟩:=hall E eA (fun j _ _=>by
  rw[hE]
  show (if 9000+j=5 then st else if 9000+j<9000 then vs (9000+j) else ((ks (9000+j - 9000):Nat):Int))=_
  rw[if_neg (by omega),if_neg (by omega),show 9000+j - 9000=j from by omega]) (fun j _ _=>eW j)
 refine⟨E,e5,?_,yw (zpX (zgb (yw (hC0 E) 20) (zga (es:=[]) (ps:=[]) (hC0 E) trivial fun e he=>by cases he) g1)) 20,zm (hfs E eA) trivial,zcK (by have:=eW 0;rw[r0]at this;exact this),zcK (by have:=eW sh.length;rw[r1]at this;exact this),ha E eA,hv E eA⟩
 have:=g2 (.v 5) 0 st (by show E.i 5=zbb st 0;rw[e5];rfl)
 rw[Nat.zero_add]at this
 exact this
structure Sf where
 sd:Sd
 lv:Nat
 wk:Nat
 fr:Nat
 ca:Nat
 cb:Nat
 run:List Sh->Nat->List V->List (SB × Bool)->V->Nat
structure SfOk (s:Sf):Prop where
 sd:SdOk s.sd
 lv:∀ {f:Nat->Int} {Q:Nat->List Nat} {P:Nat->TV} {c:Nat} {L:Nat->List Nat} {S:Nat->Int} {e t:Nat} {a b:List Nat},EInv T4 EpA f Q P c L S->EpA e->L e=a ++ t::b->zK PP s.sd.c s.lv [.int .i64 t] f (.tuple #[]) (yY f e t)
 wk:∀ {f:Nat->Int} {Q:Nat->List Nat} {P:Nat->TV} {c:Nat} {L:Nat->List Nat} {S:Nat->Int} {t:Nat},EInv T4 EpA f Q P c L S->Fre T4 EpA L t->zK PP s.sd.c s.wk [.int .i64 t] f (.tuple #[]) (zdk f t)
 run:∀ {F:Nat} {sh:List Sh} {l:List V} {fs:List (SB × Bool)} {v:V} {args:List Value} {ret:Value} {vs:Nat->Int} {f f':Nat->Int},s.run sh F l fs v=0->zcA .h l=true->sh≠[]->Chn s.sd.c vs sh f f'->(∀ E,AgV E vs->zaQ E fs)->(∀ E,AgV E vs->∀ ρ,γL E ρ l=args)->(∀ E,AgV E vs->∀ ρ,v.γ E ρ=ret)->zK PP s.sd.c F args f ret f'
def sfP:Sf:=⟨sdP,21,28,36,11,16,fun sh F l fs v=>runCw cP sh F l fs v⟩
def sfR:Sf:=⟨sdR,26,29,69,30,32,fun sh F l fs v=>zer cx0 cR sh [] F l fs v⟩
theorem zn4:SfOk sfP:=⟨yS,fun h he hab=>zpB h he hab,fun h ht=>zo4 h.ss ht,fun {F sh l fs v args ret vs f f'} hr hl hne h hfs ha hv=>by
 obtain⟨K,h⟩:=h
 refine⟨K,?_,memC_cw (by decide) hr hl h hfs ha hv⟩
 cases h with
 | nil=>exact absurd rfl hne
 | cons h1 _ _ _ _=>omega⟩
theorem zn3:SfOk sfR:=⟨yE,fun h he hab=>zpA h he hab,fun h ht=>zo3 h.ss ht,fun hr hl hne h hfs ha hv=>zbv yE hr hl hne h hfs ha hv⟩
def zch (f:Nat->Int) (e t:Nat):Nat->Int:=if (za (yY f e t) t).fk=0 then zdk (yY f e t) t else yY f e t
theorem zm2 (h:EInv T4 EpA f Q P c L S) (he:EpA e) {a b:List Nat} (hab:L e=a ++ t::b):Fre T4 EpA (zaW L e (a ++ b)) t:=by
 have htm:t∈L e:=by rw[hab];simp
 refine⟨(h.w e t he htm).1,?_⟩
 rintro ⟨e',he',hm⟩
 by_cases e2:e'=e
 ·subst e2
  rw[zR]at hm
  have hnd:=h.nd e' he
  rw[hab]at hnd
  obtain⟨na,nb,nab⟩:=List.nodup_append.1 hnd
  rcases List.mem_append.1 hm with h1 | h1
  ·exact nab t h1 t (by simp) rfl
  ·exact(List.nodup_cons.1 nb).1 h1
 ·rw[zP _ _ e2]at hm
  exact e2 (h.dj e' e t he' he hm htm)
theorem zld (h:EInv T4 EpA f Q P c L S) (he:EpA e) {a b:List Nat} (hab:L e=a ++ t::b):∃ Q' P',EInv T4 EpA (zch f e t) Q' P' c (zaW L e (a ++ b)) S/\∀ u,u≠t->P' u=P u:=by
 have h1:=zg2 z7 zfs h he hab
 have hf:=zm2 h he hab
 unfold zch
 split
 ·obtain⟨Q',h2⟩:=wake_E z7 zfs h1 hf
  exact⟨Q',_,h2,fun u hu=>by rw[yJ _ _ hu,yJ _ _ hu]⟩
 ·exact⟨_,_,h1,fun u hu=>yJ _ _ hu⟩
def shF (s:Sf) (k:Bool):List Sh:=⟨s.lv,[vt],.tup []⟩::rdT s.sd.rt vt 100::(bif k then [⟨s.wk,[vt],.tup []⟩] else [])
def fsF (k:Bool):List (SB × Bool):=[(.cmp .eql (.v 112) (.lit 0),k)]
theorem zm1:zX (fun k=>Nat.beq (sfP.run (shF sfP k) 36 [vt] (fsF k) (.tup [])) 0 && Nat.beq (sfR.run (shF sfR k) 69 [vt] (fsF k) (.tup [])) 0) zbG=true:=by decide +kernel
theorem free_c {s:Sf} (hs:SfOk s) (zr:∀ k,s.run (shF s k) s.fr [vt] (fsF k) (.tup [])=0) (h:EInv T4 EpA f Q P c L S) (he:EpA e) {a b:List Nat} (hab:L e=a ++ t::b):zK PP s.sd.c s.fr [.int .i64 t] f (.tuple #[]) (zch f e t):=by
 have h1:=zg2 z7 zfs h he hab
 have hf:=zm2 h he hab
 have hr:=j7 h1 hf.1
 obtain⟨g,hg⟩:∃ g,g=yY f e t:=⟨_,rfl⟩
 obtain⟨vs,hvs⟩:∃ vs,vs=vsL t (za g t) (zp g t) 0 (za f t) (zp f t) (za f t) (zp f t):=⟨_,rfl⟩
 have tl1:TlB vs 100 (za g t) (zp g t):=by rw[hvs];exact tlL1
 have a1:∀ E,AgV E vs->∀ ρ,vt.γ E ρ=.int .i64 t:=zaJ (by omega) (by omega) (by rw[hvs];rfl)
 have fk:∀ E,AgV E vs->E.i 112=(za g t).fk:=fun E hE=>z3 tl1 hE (j:=12) (by omega)
 have hlv:=hs.lv h he hab
 unfold zch
 rw[<- hg]at h1 hr hlv ⊢
 by_cases h0:(za g t).fk=0
 ·rw[if_pos h0]
  exact hs.run (zr true) rfl (by simp[shF]) (vs:=vs) (zar hlv (fun E hE ρ=>jV (a1 E hE ρ)) (fun E hE ρ=>rfl) (zaH hs.sd hf.1 hr a1 tl1 (zar (hs.wk h1 hf) (fun E hE ρ=>jV (a1 E hE ρ)) (fun E hE ρ=>rfl) (zQ _)))) (fun E hE=>⟨zae (by show E.i 112=0;rw[fk E hE];exact h0),trivial⟩) (fun E hE ρ=>jV (a1 E hE ρ)) (fun E hE ρ=>rfl)
 ·rw[if_neg h0]
  exact hs.run (zr false) rfl (by simp[shF]) (vs:=vs) (zar hlv (fun E hE ρ=>jV (a1 E hE ρ)) (fun E hE ρ=>rfl) (zaH hs.sd hf.1 hr a1 tl1 (zQ _))) (fun E hE=>⟨yB (by show E.i 112≠0;rw[fk E hE];exact h0),trivial⟩) (fun E hE ρ=>jV (a1 E hE ρ)) (fun E hE ρ=>rfl)
theorem zpQ:∀ k,sfP.run (shF sfP k) 36 [vt] (fsF k) (.tup [])=0:=fun k=>by
 have:=zu zm1 k (zbQ k)
 simp only[Bool.and_eq_true]at this
 exact Nat.eq_of_beq_eq_true this.1
theorem zpP:∀ k,sfR.run (shF sfR k) 69 [vt] (fsF k) (.tup [])=0:=fun k=>by
 have:=zu zm1 k (zbQ k)
 simp only[Bool.and_eq_true]at this
 exact Nat.eq_of_beq_eq_true this.2
end Go.Ev.X
end
