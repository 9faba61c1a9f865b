import Derived.Test.YtcinokgfjdifbaaGreatE2
import Derived.OrdersHeld
import Derived.LoopN
import Derived.Scope
import Derived.MapKept
import Derived.Laws.StructEq
import Derived.ChangeKeysEq
import Derived.WideKeyRuns
import Derived.Lib.BitFns
set_option linter.unusedSimpArgs false
set_option linter.unusedVariables false
noncomputable section
namespace Go.Ev
open Go
variable {E:Env} {P:Program} {N:Nat}
def AE.exit':AE->Exit
 | .normal=>.normal
 | .ret=>.ret
 | .exit n=>.exit n
def zb8 (ops:Array Oper):List (Bool × Nat)->Array Bool->Bool
 | [],listed=>(Region.ready .any ops listed).isEmpty
 | (true,i)::r,listed=>decide (i<ops.size) && Region.free .any ops listed i && (Region.ready .any ops listed).contains i && zb8 ops r (listed.setIfInBounds i true)
 | (false,i)::r,listed=>decide (i<ops.size) && decide (Region.ready .any ops listed=[i]) && zb8 ops r (listed.setIfInBounds i true)
def heldB (ops:Array Oper) (ord:List (Bool × Nat)):Bool:=Region.noSelect ops && decide (ord.length=ops.size) && zb8 ops ord (Array.replicate ops.size false)
def zgZ (ops:Array Oper) (m:Nat) (tl:List Nat):Bool:=
 EvQ.lexTailP .any ops m tl || (decide (ops.size<=m) && tl.isEmpty && Region.lexB .any ops) || (tl.isEmpty && EvQ.lexTwo .any ops m)
def mixG (ops:Array Oper) (n:Nat) (ord:List (Bool × Nat)) (listed:Array Bool):Bool:=(Region.ready .any ops listed).all (fun j=>decide (n<=j)) && zb8 ops ord listed
def mixB (ops:Array Oper) (n:Nat) (ord:List (Bool × Nat)):Bool:=
 Region.noSelect ops && decide (n<ops.size) && Region.sinkB .any ops n && EvQ.tailB .any ops n && decide (n+ord.length=ops.size) && EvQ.lexHeadF .any ops (mixG ops n ord) n 0 (Array.replicate ops.size false)
def sub2 (r:List Nat) (i q:Nat):Bool:=r.contains i && r.all (fun j=>Nat.beq j i || Nat.beq j q)
def apB (ops:Array Oper) (q i:Nat):Bool:=match ops[q]?,ops[i]? with
 | some a,some b=>a.apart ops b
 | _,_=>false
def zhG (ops:Array Oper) (q:Nat):Bool:=match ops[q]? with
 | some o=>o.guard.isNone && o.dst.isSome && (match o.op with
  | .alloc _=>true
  | .makeMap _ none=>true
  | _=>false)
 | none=>false
def zfO (ops:Array Oper) (D:List Nat):List Nat->Array Bool->Bool
 | [],L=>(Region.ready .any ops L).isEmpty && EvQ.doneD D L
 | i::r,L=>D.contains i && decide (i<ops.size) && decide (Region.ready .any ops L=[i]) && zfO ops D r (L.setIfInBounds i true)
def endF (ops:Array Oper) (D:List Nat) (q:Nat) (tl:List Nat) (L:Array Bool):Bool:=
 !(EvQ.doneD D L) && decide (Region.ready .any ops L=[q]) && zfO ops D tl (L.setIfInBounds q true)
def goK (ops:Array Oper) (D:List Nat) (q:Nat) (tl:List Nat):List (Bool × Nat)->Array Bool->Bool
 | [],L=>endF ops D q tl L
 | (true,i)::r,L=>D.contains i && apB ops q i && (Region.free .any ops L i && (Region.ready .any ops L).contains i) && (Region.free .any ops (L.setIfInBounds q true) i && (Region.ready .any ops (L.setIfInBounds q true)).contains i) && goK ops D q tl r (L.setIfInBounds i true)
 | (false,i)::r,L=>D.contains i && apB ops q i && sub2 (Region.ready .any ops L) i q && decide (Region.ready .any ops (L.setIfInBounds q true)=[i]) && goK ops D q tl r (L.setIfInBounds i true)
def floKB (ops:Array Oper) (ord:List (Bool × Nat)) (q:Nat) (tl:List Nat):Bool:=
 Region.noSelect ops && decide (tl.length+ord.length+1=ops.size) && EvQ.restOkQ ops (ord.map (·.2) ++ tl) q && !((ord.map (·.2) ++ tl).contains q) && zhG ops q && goK ops (ord.map (·.2) ++ tl) q tl ord (Array.replicate ops.size false)
def chB (ops:Array Oper):List (Nat × List Nat)->Bool
 | []=>true
 | [_]=>true
 | a::b::r=>(EvQ.edgesOf ops b.1).contains a.1 && chB ops (b::r)
def zam (dr:Nat->Option Dr):Code->Bool
 | .seq a b=>zam dr a && zam dr b
 | .cond _ a b=>zam dr a && zam dr b
 | .block _ a=>zam dr a
 | .loop a=>zam dr a
 | .scope a=>zam dr a
 | .region id ops true=>match dr id with
  | some (.tail m tl)=>zgZ ops m tl
  | some (.held bs ord)=>heldB ops ord
  | some (.mix n bs ord)=>mixB ops n ord
  | some (.hold2 bs ord tl)=>false
  | some (.flo bs ord ch q tl)=>false
  | some (.heldK ks ord)=>false
  | some (.heldK2 ks ord tl)=>false
  | some (.floK ks ord q tl)=>floKB ops ord q tl
  | some (.mapK _ ord qs cs q ins n0)=>false
  | none=>true
 | _=>true
def Runs (E:Env) (P:Program) (N:Nat) (c:Code) (fr:Fr) (h:H) (k:K2):Prop:=
 ∃ ae fr' h' fa',k ae fr' h' fa'=0/\FaOk E fa'/\∀ {DS:List Deferred} ρ w a QQ,Sat E ρ h w->yr E ρ h.n.toNat fr (a:Act).tmps->N<=a.tmps.size->a.defers=DS->(∀ a' w',At E N DS ρ h w fr' h' a' w'->QQ (AE.exit' ae) a' w')->c.wp P QQ a w
theorem zhh {ρ:Rho} {h:H} {w:World} (s:Sat E ρ h w):Sat E ρ h w.drew:=⟨s.obj,s.inj,s.bd⟩
theorem zdA {ρ:Rho} {h:H} {w:World} (s:Sat E ρ h w):Ext ρ h w ρ h w.drew:=
 ⟨Nat.le_refl _,rfl,fun _ _=>rfl,fun p o h1 h2=>by have:=(s.bd p o h2).1;omega,rfl,rfl,rfl,Nat.le_refl _,fun _ _ _=>rfl,fun _ _ _=>rfl,fun p o _ h1 h2=>⟨o,h1,h2⟩⟩
theorem zsE (ops:Array Oper) (tl:List Nat):zcA ops.toList tl=EvQ.pick ops tl:=by
 induction tl with
 | nil=>rfl
 | cons i r ih=>
  simp only[zcA,jD,EvQ.pick,List.filterMap_cons]
  simp only[Array.getElem?_toList]
  cases ops[i]? with
  | none=>simpa [EvQ.pick] using ih
  | some o=>simpa [EvQ.pick] using ih
def za5 (hS h:H):Prop:=∀ p o,hS.t.get p=some o->o.live=true->h.t.get p=some o
theorem zdn {ρ0 ρ:Rho} {hS h:H} {w0 w:World} (s0:Sat E ρ0 hS w0) (s:Sat E ρ h w) (hk:za5 hS h) (ha:∀ p:Ev.P,p.toNat<hS.n.toNat->ρ p=ρ0 p):Sat E ρ0 hS w:=by
 refine⟨fun p o hp=>?_,fun p q o o' hp hq l1 l2 he=>?_,s0.bd⟩
 ·cases hl:o.live with
  | false=>cases o <;> simp[O.live]at hl;trivial
  | true=>
   have h1:=s.obj p o (hk p o hp hl)
   rw[ha p (s0.bd p o hp).1]at h1
   exact O.Is_agree E (fun i hi=>(ha i hi).symm) (s0.bd p o hp).2 h1
 ·refine s.inj p q o o' (hk p o hp (jl l1)) (hk q o' hq l2) l1 l2 ?_
  rw[ha p (s0.bd p o hp).1,ha q (s0.bd q o' hq).1];exact he
theorem zhV {fr:Fr} {e:Nat} (he:e≠0):∀ (bs:List Nat) (h:H) (k:H->Nat),deadT fr e (bs.map zy) h k=0->∃ hS,k hS=0/\hS.n=h.n/\za5 hS h /\
  ∀ (E:Env) ρ w tmps,yr E ρ h.n.toNat fr tmps->Sat E ρ h w->Sat E ρ hS w
 | [],h,k,hk=>⟨h,hk,rfl,fun p o hp _=>hp,fun E ρ w tmps _ hs=>hs⟩
 | b::r,h,k,hk=>by
  have hk:za6 (fr.get (zy b)) (fun id _=>zbI h id .dead (fun h=>deadT fr e (r.map zy) h k)) e=0:=hk
  obtain⟨id,off,hp,hk⟩:=zcM hk he
  rw[zaH]at hk
  obtain⟨hS,h1,h2,h3,h4⟩:=zhV he r _ k hk
  refine⟨hS,h1,h2,fun p o ho hl=>?_,fun E ρ w tmps hf hs=>h4 E ρ w tmps hf ?_⟩
  ·have h5:=h3 p o ho hl
   simp only[H.put,get_set]at h5
   split at h5
   ·simp at h5;subst h5;simp[O.live]at hl
   ·exact h5
  ·have hid:=(hf b _ hp).2
   have hg:∀ q o',(h.put id .dead).t.get q=some o'->(q=id/\o'=.dead)\/h.t.get q=some o':=by
    intro q o' hq
    simp only[H.put,get_set]at hq
    split at hq
    ·rename_i e;simp at hq;exact .inl ⟨Ev.P.toNat_inj e,hq.symm⟩
    ·exact .inr hq
   refine⟨fun q o' hq=>?_,fun p q o o' hp hq l1 l2 he=>?_,fun q o' hq=>?_⟩
   ·rcases hg q o' hq with ⟨rfl,rfl⟩ | hq
    ·trivial
    ·exact hs.obj q o' hq
   ·rcases hg p o hp with ⟨rfl,rfl⟩ | hp
    ·simp[O.mine]at l1
    ·rcases hg q o' hq with ⟨rfl,rfl⟩ | hq
     ·simp[O.live]at l2
     ·exact hs.inj p q o o' hp hq l1 l2 he
   ·rcases hg q o' hq with ⟨rfl,rfl⟩ | hq
    ·exact⟨hid,trivial⟩
    ·exact hs.bd q o' hq
theorem zqI {hS:H} {id:Ev.P} (h:zkH hS id=true):hS.n.toNat<=id.toNat\/hS.t.get id=some .dead:=by
 unfold zkH at h
 rw[zbA]at h
 cases hp:pLe hS.n id with
 | true=>exact .inl (by simpa [pLe] using hp)
 | false=>
  rw[hp]at h
  have h:(match hS.t.get id with | some .dead=>true | _=>false)=true:=h
  split at h
  ·rename_i h1;exact .inr h1
  ·simp at h
theorem zkD {Y:Ty} (hY:TyOk P Y) {o:Oper} {i:IOp} (hc:cOp Y o.op=some i) {fr:Fr} {h hS:H} (hm:zfB i fr hS=true) {k:KV} {e:Nat} (hr:evI i fr h k e=0) (he:e≠0) :
  ∃ v h',k v h'=0/\(∀ (E:Env) (ρ:Rho) (a:Act) (w:World),yr E ρ h.n.toNat fr a.tmps->Sat E ρ h w->zfX E P o a ρ h w v h') /\
   ((∀ p o,hS.t.get p=some o->p.toNat<hS.n.toNat)->hS.n.toNat<=h.n.toNat->za5 hS h->za5 hS h'):=by
 rcases zkQ i fr h with h1 | ⟨v,h',h1⟩
 ·exact absurd ((h1 k e).symm.trans hr) he
 ·let k':KV:=fun v2 h2=>@ite _ (v2=v/\h2=h') (Classical.propDecidable _) 0 1
  have hk':evI i fr h k' 1=0:=(h1 _ _).trans (by simp[k'])
  have hkd:∀ v2 h2,k' v2 h2=0->h2=h':=by
   intro v2 h2 hk
   by_cases hc:v2=v/\h2=h'
   ·exact hc.2
   ·simp only[k']at hk;rw[if_neg hc]at hk;simp at hk
  refine⟨v,h',by rw[<- h1 k e];exact hr,fun E ρ a w hf hs=>?_,fun hb hn hke=>?_⟩
  ·obtain⟨v2,h2,hp,hk⟩:=zpw hY hc hk' (by simp) hf hs
   by_cases hc:v2=v/\h2=h'
   ·rw[hc.1,hc.2]at hp;exact hp
   ·simp only[k']at hk;rw[if_neg hc]at hk;simp at hk
  ·have add:∀ oo,h.add oo=h'->za5 hS h':=by
    rintro oo rfl p o hp hl
    have h2:=hke p o hp hl
    have h3:=hb p o hp
    simp only[H.add,get_set]
    rw[if_neg (by omega)];exact h2
   have newk:∀ t l (vv:Ev.P->V),zkz h t l vv k' 1=0->za5 hS h':=by
    intro t l vv hr
    obtain⟨_,hr⟩:=zK hr (by simp)
    rw[zaI]at hr
    exact add _ (hkd _ _ hr)
   have put:∀ id oo,zkH hS id=true->h.put id oo=h'->za5 hS h':=by
    rintro id oo hd rfl p o hp hl
    have h2:=hke p o hp hl
    simp only[H.put,get_set]
    rw[if_neg ?_];exact h2
    intro e
    have e:=Ev.P.toNat_inj e
    subst e
    rcases zqI hd with h3 | h3
    ·have:=hb _ o hp;omega
    ·rw[hp]at h3;cases h3;simp[O.live]at hl
   cases i <;> simp only[zfB]at hm <;> try (simp at hm;done)
   case new t l=>exact newk t l _ hk'
   case box t x=>
    obtain⟨v,hv,hr⟩:=z9 (show oc (od x fr) _ 1=0 from hk') (by simp)
    exact newk t _ _ hr
   case bsl t n z ps=>
    obtain⟨l,hl,hr⟩:=z9 (show oc (fill fr z ps) _ 1=0 from hk') (by simp)
    exact newk t _ _ hr
   case st n a x=>
    have hk':bc (Nat.beq n 1) (eSt1 a x) (eStN n a x) fr h k' 1=0:=hk'
    cases hb1:Nat.beq n 1 with
    | true=>
     rw[hb1]at hk'
     have hr:eSt1 a x fr h k' 1=0:=hk'
     obtain⟨id,off,hp,hr⟩:=zcM hr (by simp)
     obtain⟨v,hv,hr⟩:=z9 hr (by simp)
     obtain⟨hmm,hr⟩:=zK hr (by simp)
     obtain⟨oo,ho,hr⟩:=z9 hr (by simp)
     obtain⟨hone,hr⟩:=zK hr (by simp)
     obtain⟨o',hp',hr⟩:=zoZ hr (by simp)
     rw[zaH]at hr
     rw[hp]at hm
     exact put id o' hm (hkd _ _ hr)
    | false=>
     rw[hb1]at hk'
     have hr:eStN n a x fr h k' 1=0:=hk'
     obtain⟨id,off,hp,hr⟩:=zcM hr (by simp)
     obtain⟨v,hv,hr⟩:=z9 hr (by simp)
     obtain⟨hmm,hr⟩:=zK hr (by simp)
     obtain⟨oo,ho,hr⟩:=z9 hr (by simp)
     obtain⟨hlen,hr⟩:=zK hr (by simp)
     obtain⟨hone,hr⟩:=zK hr (by simp)
     obtain⟨o',hp',hr⟩:=zkq hr (by simp)
     rw[zaH]at hr
     rw[hp]at hm
     exact put id o' hm (hkd _ _ hr)
theorem zaV {Y:Ty} {all:List Oper} {q:Bool} {i:Nat} {r:List (Bool × Nat)} {l:List (Bool × OI)} (h:zad Y N all ((q,i)::r)=some l):∃ o x l',nth all i=some o/\zcg Y N all o=some x/\zad Y N all r=some l'/\l=(q,x)::l':=by
 simp only[zad]at h
 split at h
 ·rename_i o r' ho hr
  split at h
  ·rename_i x hx
   simp at h;subst h
   exact⟨o,x,r',ho,hx,hr,rfl⟩
  ·simp at h
 ·simp at h
theorem zep {all:List Oper} {o:Oper} (h:zdI all o.guard=some none):o.guard=none:=by
 cases hg:o.guard with
 | none=>rfl
 | some jw=>
  obtain⟨j,want⟩:=jw
  rw[hg]at h
  simp only[zdI]at h
  split at h <;> simp at h
theorem zcE {Y:Ty} (hY:TyOk P Y) {g:Ctx} (hcall:zk E P g.call) {ops:Array Oper} (hsel:Region.noSelect ops=true) {hS:H} {k:K1}:∀ (ord:List (Bool × Nat)) (l:List (Bool × OI)) (fr:Fr) (h:H) (fa:Fa),
  zad Y N ops.toList ord=some l->FaOk E fa->zcF hS l g fr h fa k=0 ->
  ∃ fr' h' fa',k fr' h' fa'=0/\FaOk E fa'/\∀ listed,zb8 ops ord listed=true->∀ {DS:List Deferred} ρ0 ρ w a QQ,hS.n.toNat<=h.n.toNat->za5 hS h->Sat E ρ0 hS w->(∀ p:Ev.P,p.toNat<hS.n.toNat->ρ p=ρ0 p)->Sat E ρ h w->yr E ρ h.n.toNat fr (a:Act).tmps->N<=a.tmps.size->a.defers=DS ->
   (∀ c a w,¬ QQ (.panic c) a w)->(∀ a' w',At E N DS ρ h w fr' h' a' w'->QQ .normal a' w')->wpAnyH P .any ops QQ (Sat E ρ0 hS) ord.length listed a w
 | [],l,fr,h,fa,hl,hfa,hk=>by
  simp[zad]at hl;subst hl
  exact⟨fr,h,fa,hk,hfa,fun listed hB {DS} ρ0 ρ w a QQ hn hke hs0 ha hs hf hN hd hp hq=>wpAnyH_done (by simpa [zb8] using hB) (hq a w ⟨ρ,hf,hN,hd,hs,hs.refl E⟩) _⟩
 | (true,i)::r,l,fr,h,fa,hl,hfa,hk=>by
  obtain⟨o,x,l2,ho,hx,hl2,rfl⟩:=zaV hl
  rw[jD,Array.getElem?_toList]at ho
  have hk:OI.go qOp hNo x g fr hS fa (fun fr _ fa=>zcF hS l2 g fr h fa k)=0:=hk
  obtain⟨d,gg,hd,hg,hxx⟩:=zao hx
  rcases hxx with ⟨ii,hi,rfl⟩ | ⟨cl,f0,f,ll,hop,hcal,hf0,hll,rfl⟩
  rotate_left
  ·exact absurd (show err g 63=0 from hk) (yC _ _)
  have hk:qOp d gg ii g fr hS fa (fun fr _ fa=>zcF hS l2 g fr h fa k)=0:=hk
  rcases zaL hg hfa hk with ⟨fa1,hfa1,hk,hw⟩ | ⟨fa1,hfa1,hk,hw⟩
  ·obtain⟨hst,hk⟩:=zK hk (yC _ _)
   obtain⟨v,h',hk,zr⟩:=zbQ hY hi hst hk (yC _ _)
   obtain⟨fr1,hk,hput⟩:=zba hfa1 hd hk
   obtain⟨fr2,h2,fa2,hk2,hfa2,hr2⟩:=zcE hY hcall hsel r l2 fr1 h fa1 hl2 hfa1 hk
   refine⟨fr2,h2,fa2,hk2,hfa2,fun listed hB {DS} ρ0 ρ w a QQ hn hke hs0 ha hs hf hN hdf hp hq=>?_⟩
   have conv:∀ w,Sat E ρ0 hS w->Sat E ρ hS w:=fun w s=>zdn (ρ0:=ρ) (h:=hS) ⟨fun p o hp=>O.Is_agree E (fun i hi=>ha i hi) (s.bd p o hp).2 (by rw[ha p (s.bd p o hp).1];exact s.obj p o hp),
    fun p q o o' hp hq l1 l2 he=>s.inj p q o o' hp hq l1 l2 (by rw[<- ha p (s.bd p o hp).1,<- ha q (s.bd q o' hq).1];exact he),s.bd⟩ s (fun p o hp _=>hp) (fun p hp=>(ha p hp).symm)
   simp only[zb8,Bool.and_eq_true,decide_eq_true_eq]at hB
   obtain⟨⟨⟨hlt,hfree⟩,hready⟩,hB⟩:=hB
   obtain⟨g1,g2,g3⟩:=hput ρ _ a hf hN (zr E ρ _ a w hn hf (conv w hs0)).2
   refine wpAnyH_take (i:=i) ho hsel hfree hready (fun c a w hh=>absurd hh (hp c _ w)) (.inl ⟨hw ρ _ a hf,fun w' hw'=>(zr E ρ _ a w' hn hf (conv w' hw')).1⟩) hs0 ?_
   exact hr2 _ hB ρ0 ρ w _ QQ hn hke hs0 ha hs g1 g2 (g3.trans hdf) hp hq
  ·obtain⟨fr1,hk,hput⟩:=zav hd hk
   obtain⟨fr2,h2,fa2,hk2,hfa2,hr2⟩:=zcE hY hcall hsel r l2 fr1 h fa1 hl2 hfa1 hk
   refine⟨fr2,h2,fa2,hk2,hfa2,fun listed hB {DS} ρ0 ρ w a QQ hn hke hs0 ha hs hf hN hdf hp hq=>?_⟩
   simp only[zb8,Bool.and_eq_true,decide_eq_true_eq]at hB
   obtain⟨⟨⟨hlt,hfree⟩,hready⟩,hB⟩:=hB
   obtain⟨g1,g2,g3⟩:=hput E ρ h.n.toNat a hf hN (by trivial)
   refine wpAnyH_take (i:=i) ho hsel hfree hready (fun c a w hh=>absurd hh (hp c _ w)) (.inr ⟨hw ρ _ a hf,rfl⟩) hs0 ?_
   exact hr2 _ hB ρ0 ρ w _ QQ hn hke hs0 ha hs g1 g2 (g3.trans hdf) hp hq
 | (false,i)::r,l,fr,h,fa,hl,hfa,hk=>by
  obtain⟨o,x,l2,ho,hx,hl2,rfl⟩:=zaV hl
  rw[jD,Array.getElem?_toList]at ho
  have hk:OI.go (hOp hS) (hCall hS) x g fr h fa (fun fr h fa=>zcF hS l2 g fr h fa k)=0:=hk
  obtain⟨d,gg,hd,hg,hxx⟩:=zao hx
  have one:∀ fr1 h1 fa1,FaOk E fa1->o.guard=none->zcF hS l2 g fr1 h1 fa1 k=0 ->
    (∀ {DS:List Deferred} ρ w a QQ,(∀ p o,hS.t.get p=some o->p.toNat<hS.n.toNat)->hS.n.toNat<=h.n.toNat->za5 hS h->Sat E ρ h w->yr E ρ h.n.toNat fr (a:Act).tmps->N<=a.tmps.size->a.defers=DS->o.wp P a w (fun a1 w1=>At E N DS ρ h w fr1 h1 a1 w1/\za5 hS h1) QQ) ->
    ∃ fr' h' fa',k fr' h' fa'=0/\FaOk E fa'/\∀ listed,zb8 ops ((false,i)::r) listed=true->∀ {DS:List Deferred} ρ0 ρ w a QQ,hS.n.toNat<=h.n.toNat->za5 hS h->Sat E ρ0 hS w->(∀ p:Ev.P,p.toNat<hS.n.toNat->ρ p=ρ0 p)->Sat E ρ h w->yr E ρ h.n.toNat fr (a:Act).tmps->N<=a.tmps.size->a.defers=DS ->
     (∀ c a w,¬ QQ (.panic c) a w)->(∀ a' w',At E N DS ρ h w fr' h' a' w'->QQ .normal a' w')->wpAnyH P .any ops QQ (Sat E ρ0 hS) ((false,i)::r).length listed a w:=by
   intro fr1 h1 fa1 hfa1 hgd hk1 hstep
   obtain⟨fr2,h2,fa2,hk2,hfa2,hr2⟩:=zcE hY hcall hsel r l2 fr1 h1 fa1 hl2 hfa1 hk1
   refine⟨fr2,h2,fa2,hk2,hfa2,fun listed hB {DS} ρ0 ρ w a QQ hn hke hs0 ha hs hf hN hdf hp hq=>?_⟩
   simp only[zb8,Bool.and_eq_true,decide_eq_true_eq]at hB
   obtain⟨⟨hlt,hready⟩,hB⟩:=hB
   refine wpAnyH_all hready (by simp) fun j hj=>?_
   have hj:j=i:=by simpa using hj
   subst hj
   unfold wpOp
   simp only[ho]
   rw[if_pos (by simp[Region.wanted,hgd])]
   refine .inl (zgO ?_ (hstep ρ w a QQ (fun p o hp=>(hs0.bd p o hp).1) hn hke hs hf hN hdf))
   rintro a1 w1 ⟨⟨ρ1,f1,n1,d1,s1,x1⟩,hke1⟩
   have ha1:∀ p:Ev.P,p.toNat<hS.n.toNat->ρ1 p=ρ0 p:=fun p hp=>by rw[x1.agree p (by omega),ha p hp]
   have hs1:Sat E ρ0 hS w1:=zdn hs0 s1 hke1 ha1
   exact⟨hs1,hr2 _ hB ρ0 ρ1 w1 a1 QQ (Nat.le_trans hn x1.len) hke1 hs1 ha1 s1 f1 n1 d1 hp (fun a' w' hA=>hq a' w' (hA.trans x1))⟩
  rcases hxx with ⟨ii,hi,rfl⟩ | ⟨cl,f0,f,ll,hop,hcal,hf0,hll,rfl⟩
  ·have hk:oc gg (fun _=>err g 60) (bc (zfB ii fr hS) (evI ii fr h (fun v h=>zb2 d fa v fr (fun fr=>zcF hS l2 g fr h fa k)) (err g (zbp ii))) (bc (yF ii) (evI ii fr h (fun v _=>zb2 d fa v fr (fun fr=>zcF hS l2 g fr h fa k)) (err g (zbp ii))) (err g 61)))=0:=hk
   cases gg with
   | some gg=>exact absurd (show err g 60=0 from hk) (yC _ _)
   | none=>
    have hk:bc (zfB ii fr hS) (evI ii fr h (fun v h=>zb2 d fa v fr (fun fr=>zcF hS l2 g fr h fa k)) (err g (zbp ii))) (bc (yF ii) (evI ii fr h (fun v _=>zb2 d fa v fr (fun fr=>zcF hS l2 g fr h fa k)) (err g (zbp ii))) (err g 61))=0:=hk
    cases hmk:zfB ii fr hS with
    | false=>
     rw[hmk]at hk
     obtain⟨hst,hk⟩:=zK (show bc (yF ii) _ _=0 from hk) (yC _ _)
     obtain⟨v,_,hk,zr⟩:=zbQ hY hi hst hk (yC _ _)
     obtain⟨fr1,hk,hput⟩:=zba hfa hd hk
     refine one fr1 h fa hfa (zep hg) hk fun {DS} ρ w a QQ hbd hn hke hs hf hN hdf=>?_
     obtain⟨q1,q2⟩:=zr E ρ _ a w (Nat.le_refl _) hf hs
     obtain⟨g1,g2,g3⟩:=hput ρ _ a hf hN q2
     unfold Oper.wp
     rw[q1]
     exact⟨⟨ρ,g1,g2,g3.trans hdf,hs,hs.refl E⟩,hke⟩
    | true=>
    rw[hmk]at hk
    have hk:evI ii fr h (fun v h=>zb2 d fa v fr (fun fr=>zcF hS l2 g fr h fa k)) (err g (zbp ii))=0:=hk
    obtain⟨v,h1,hk,zr,hkeep⟩:=zkD hY hi hmk hk (yC _ _)
    obtain⟨fr1,hk,hput⟩:=zba hfa hd hk
    refine one fr1 h1 fa hfa (zep hg) hk fun {DS} ρ w a QQ hbd hn hke hs hf hN hdf=>?_
    obtain⟨ρ',w',nx,hr,hnx,hs',hx',hb⟩:=zr E ρ a w hf hs
    obtain⟨g1,g2,g3⟩:=hput ρ' _ a (hf.mono hx'.len hx'.agree) hN hb
    unfold Oper.wp
    rw[hr]
    have hgo:At E N DS ρ h w fr1 h1 (a.put o.dst (v.γ E ρ')) w'/\za5 hS h1:=⟨⟨ρ',g1,g2,g3.trans hdf,hs',hx'⟩,hkeep hbd hn hke⟩
    rcases hnx with rfl | ⟨rfl,rfl⟩
    ·exact hgo
    ·exact hgo
  ·have hk:oc gg (fun _=>err g 62) (hc h (fun n lo t=>hc hS (fun m _ _=>bc (pLe lo m) (zdg f ll g fr ⟨n,m,t⟩ fa (fun v h' fa=>hc h' (fun n' _ t'=>zb3 d v fr (fun fr=>zcF hS l2 g fr ⟨n',lo,t'⟩ fa k)))) (err g 65))))=0:=hk
   cases gg with
   | some gg=>exact absurd (show err g 62=0 from hk) (yC _ _)
   | none=>
    have hk:hc h (fun n lo t=>hc hS (fun m _ _=>bc (pLe lo m) (zdg f ll g fr ⟨n,m,t⟩ fa (fun v h' fa=>hc h' (fun n' _ t'=>zb3 d v fr (fun fr=>zcF hS l2 g fr ⟨n',lo,t'⟩ fa k)))) (err g 65)))=0:=hk
    rw[zbA,zbA]at hk
    obtain⟨hlo,hk⟩:=zK hk (yC _ _)
    have hlo:h.lo.toNat<=hS.n.toNat:=by simpa [pLe] using hlo
    obtain⟨F,vl,v,h1,fa1,hk,hfa1,hr,hdo⟩:=zfe hop hcal hf0 hll hcall hfa hk
    rw[zbA]at hk
    obtain⟨fr1,hk,hput⟩:=zav hd hk
    refine one fr1 ⟨h1.n,h.lo,h1.t⟩ fa1 hfa1 (zep hg) hk fun {DS} ρ w a QQ hbd hn hke hs hf hN hdf=>?_
    obtain⟨hvb,hex⟩:=hr ρ _ a hf
    unfold Oper.wp
    rw[hex,Oper.upon_enter]
    refine(hdo ρ w hvb ⟨hs.obj,hs.inj,hs.bd⟩).mono ?_
    rintro e w' ⟨ρ',rfl,hs',hx',hb⟩
    have hx2:Ext ρ h w ρ' ⟨h1.n,h.lo,h1.t⟩ w':=by
     refine⟨hx'.len,rfl,hx'.agree,fun p o hp hg hl=>?_,hx'.os,hx'.tape,hx'.output,hx'.size,fun b hb hno=>hx'.keep b hb fun p o hp hl hlo2=>hno p o hp hl (Nat.le_trans hlo hlo2),fun p hp hq=>hx'.old p (Nat.lt_of_lt_of_le hp hlo) hq,hx'.liv⟩
     rcases hx'.new p o hp hg hl with h3 | ⟨q,o',h3,h4,h5,h6⟩
     ·exact .inl h3
     ·exact .inr ⟨q,o',h3,h4,Nat.le_trans hlo h5,h6⟩
    obtain⟨g1,g2,g3⟩:=hput E ρ' _ a (hf.mono hx2.len hx2.agree) hN hb
    refine⟨⟨ρ',g1,g2,g3.trans hdf,⟨hs'.obj,hs'.inj,hs'.bd⟩,hx2⟩,fun p o hp hl=>?_⟩
    have hpS:=hbd p o hp
    have:=hx'.old p hpS (show p.toNat<h.n.toNat by omega)
    show h1.t.get p=some o
    rw[this];exact hke p o hp hl
theorem ztH {Y:Ty} (hY:TyOk P Y) (hm:P.follows .mixedOrders=true) {g:Ctx} (hcall:zk E P g.call) {id:Nat} {ops:Array Oper} {bs:List Nat} {ord:List (Bool × Nat)} (hB:heldB ops ord=true)
  {l:List (Bool × OI)} (hl:zad Y N ops.toList ord=some l) {fr:Fr} {h:H} {fa:Fa} {k:K2} (hfa:FaOk E fa) (hk:cHops (bs.map zy) l g fr h fa k=0):Runs E P N (.region id ops true) fr h k:=by
 simp only[heldB,Bool.and_eq_true,decide_eq_true_eq]at hB
 obtain⟨⟨hsel,hlen⟩,hgo⟩:=hB
 obtain⟨hS,hk,hSn,hke,hSat⟩:=zhV (yC _ _) bs h _ hk
 obtain⟨fr1,h1,fa1,hk1,hfa1,hr⟩:=zcE hY hcall hsel ord l fr h fa hl hfa hk
 refine⟨.normal,fr1,h1,fa1,hk1,hfa1,fun {DS} ρ w a QQ hs hf hN hd hQ=>?_⟩
 have hs1:Sat E ρ h { w with drawn:=w.drawn+1 }:=⟨hs.obj,hs.inj,hs.bd⟩
 have hx1:Ext ρ h w ρ h { w with drawn:=w.drawn+1 }:=zdA hs
 refine Go.wp_mono (Q:=fun e a' w'=>e=.normal/\At E N DS ρ h w fr1 h1 a' w') (wp_region_held (S:=Sat E ρ hS) hm ?_) (fun e a' w' ⟨he,hA⟩=>by rw[he];exact hQ a' w' hA)
 have key:=hr _ hgo ρ ρ _ a (fun e a' w'=>e=.normal/\At E N DS ρ h w fr1 h1 a' w') (by rw[hSn];exact Nat.le_refl _) hke (hSat E ρ _ _ hf hs1) (fun _ _=>rfl) hs1 hf hN hd (fun c a w hh=>(by cases hh.1)) (fun a' w' hA=>⟨rfl,hA.trans hx1⟩)
 rw[hlen]at key
 exact key
theorem zh9 {id:Nat} {ops:Array Oper} {Q:Exit->Act->World->Prop} {C:World->Prop} {a:Act} {w:World} (n:Nat) (ord:List (Bool × Nat)) (hm:P.follows .mixedOrders=true) (hB:mixB ops n ord=true) (hC:C { w with drawn:=w.drawn+1 })
  (h:wpQuiet P ops C (fun a'=>∀ w' listed,C w'->zb8 ops ord listed=true->wpAny P .any ops Q ord.length listed a' w') (ops.toList.take n) a):(Code.region id ops true).wp P Q a w:=by
 simp only[mixB,Bool.and_eq_true,decide_eq_true_eq]at hB
 obtain⟨⟨⟨⟨⟨hsel,hn⟩,hs⟩,hc⟩,hsz⟩,hlex⟩:=hB
 have hlen:(ops.toList.take n).length=n:=by simp;omega
 have inv:HeadInv .any ops n (Array.replicate ops.size false):=
  ⟨by simp,fun j oj _ hl=>by rw[getD_replicate_false]at hl;simp at hl,fun t _ ht=>getD_in (by simpa using ht) (getD_replicate_false _ _)⟩
 have h1:=EvQ.headQ_lexF (P:=P) (C:=C) (md:=.any) (n:=n) (F:=mixG ops n ord)
  (fun listed hF j hj=>by
   simp only[mixG,Bool.and_eq_true,List.all_eq_true,decide_eq_true_eq]at hF
   exact hF.1 j hj)
  hsel (fun listed inv i hi hun t ht=>EvQ.tailB_waits hs hc hn inv _ i rfl hi hun t ht) (ops.toList.take n) 0 _ a (fun j hj=>by
  have hj:j<n:=by omega
  simp[List.getElem?_take,hj]) (by simpa using hlen) inv (by rw[hlen];exact hlex) h
 rw[hlen]at h1
 refine wp_region_any hm ?_
 rw[show wpAny P .any ops Q ops.size=wpAny P .any ops Q (n+ord.length) from by rw[hsz]]
 refine EvQ.headQ_any (C:=C) (fun listed a' w' hw' hL=>?_) n _ a _ hC h1
 obtain⟨⟨hF,_⟩,hK⟩:=hL
 simp only[mixG,Bool.and_eq_true]at hF
 exact hK w' listed hw' hF.2
theorem mix_run {Y:Ty} (hY:TyOk P Y) (hm:P.follows .mixedOrders=true) {g:Ctx} (hcall:zk E P g.call) {id:Nat} {ops:Array Oper} {n:Nat} {bs:List Nat} {ord:List (Bool × Nat)} (hB:mixB ops n ord=true)
  {hd:List OI} (hhd:jz Y N ops.toList (ops.toList.take n)=some hd) {l:List (Bool × OI)} (hl:zad Y N ops.toList ord=some l) {fr:Fr} {h:H} {fa:Fa} {k:K2} (hfa:FaOk E fa)
  (hk:zhm hd g fr h fa (fun fr h fa=>cHops (bs.map zy) l g fr h fa k)=0):Runs E P N (.region id ops true) fr h k:=by
 obtain⟨fr0,fa0,hk,hfa0,hq⟩:=zcz hY hcall _ _ fr fa hhd hfa hk
 obtain⟨hS,hk,hSn,hke,hSat⟩:=zhV (yC _ _) bs h _ hk
 have hsel:Region.noSelect ops=true:=by
  simp only[mixB,Bool.and_eq_true]at hB;exact hB.1.1.1.1.1
 obtain⟨fr1,h1,fa1,hk1,hfa1,hr⟩:=zcE hY hcall hsel ord l fr0 h fa0 hl hfa0 hk
 refine⟨.normal,fr1,h1,fa1,hk1,hfa1,fun {DS} ρ w a QQ hs hf hN hd hQ=>?_⟩
 have hs1:=zhh hs
 have hC1:Cls E ρ h w.drew { w with drawn:=w.drawn+1 }:=⟨hs1,hs1.refl E⟩
 refine Go.wp_mono (Q:=fun e a' w'=>e=.normal/\At E N DS ρ h w fr1 h1 a' w') (zh9 n ord hm hB hC1 ?_) (fun e a' w' ⟨he,hA⟩=>by rw[he];exact hQ a' w' hA)
 refine hq ρ w.drew a _ hs1 hf hN hd fun a2 f2 n2 d2 w2 listed hw2 hgo=>wpAny_of_held (S:=Sat E ρ hS) _ _ _ _ ?_
 exact hr listed hgo ρ ρ w2 a2 (fun e a' w'=>e=.normal/\At E N DS ρ h w fr1 h1 a' w') (by rw[hSn];exact Nat.le_refl _) hke (hSat E ρ _ _ f2 hw2.1) (fun _ _=>rfl) hw2.1 f2 n2 d2 (fun c a w hh=>(by cases hh.1)) (fun a' w' hA=>⟨rfl,hA.trans ((zdA hs).trans hw2.2)⟩)
theorem zrz {Y:Ty} (hY:TyOk P Y) (hm:P.follows .mixedOrders=true) {g:Ctx} (hcall:zk E P g.call) {id:Nat} {ops:Array Oper} {m:Nat} {tl:List Nat} (hB:zgZ ops m tl=true)
  {hd t:List OI} (h1:jz Y N ops.toList (ops.toList.take m)=some hd) (h2:jz Y N ops.toList (EvQ.pick ops tl)=some t) (hno:tl=[]->ops.size<=m)
  {fr:Fr} {h:H} {fa:Fa} {k:K2} (hfa:FaOk E fa) (hk:zhm hd g fr h fa (fun fr h fa=>opsT t g fr h fa (fun fr h fa=>k .normal fr h fa))=0):Runs E P N (.region id ops true) fr h k:=by
 obtain⟨fr1,fa1,hk1,hfa1,hq⟩:=zcz hY hcall _ _ fr fa h1 hfa hk
 obtain⟨fr2,h2',fa2,hk2,hfa2,ho⟩:=zhv hY hcall _ _ fr1 h fa1 h2 hfa1 hk1
 refine⟨.normal,fr2,h2',fa2,hk2,hfa2,fun {DS} ρ w a QQ hs hf hN hd hQ=>?_⟩
 have hs1:=zhh hs
 have hC1:Cls E ρ h w.drew { w with drawn:=w.drawn+1 }:=⟨hs1,hs1.refl E⟩
 have fin:∀ a',yr E ρ h.n.toNat fr1 (a':Act).tmps->N<=a'.tmps.size->a'.defers=DS->∀ w',Cls E ρ h w.drew w'->wpList P ops QQ (EvQ.pick ops tl) a' w':=by
  intro a' hf' hN' hd' w' hw'
  refine ho ρ w' a' QQ hw'.1 hf' hN' hd' (fun a2 w2 hA=>hQ a2 w2 (hA.trans ((zdA hs).trans hw'.2)))
 have hgo:=hq ρ w.drew a (fun a'=>∀ w',Cls E ρ h w.drew w'->wpList P ops QQ (EvQ.pick ops tl) a' w') hs1 hf hN hd fin
 simp only[zgZ,Bool.or_eq_true,Bool.and_eq_true,decide_eq_true_eq,List.isEmpty_iff]at hB
 rcases hB with (hB | ⟨⟨hle,rfl⟩,hB⟩) | ⟨rfl,hB⟩
 ·exact EvQ.wp_region_head m tl hm hB hC1 hgo
 ·have hle':ops.toList.length<=m:=by simpa using hle
  rw[List.take_of_length_le hle']at hgo
  refine wp_region_quiet hm hB hC1 ?_
  exact hgo
 ·simp only[EvQ.lexTwo,Bool.and_eq_true,decide_eq_true_eq]at hB
  have hn:m<ops.size:=hB.1.1.1.2
  have:=hno rfl
  omega
theorem two_run {Y:Ty} (hY:TyOk P Y) (hm:P.follows .mixedOrders=true) {g:Ctx} (hcall:zk E P g.call) {id:Nat} {ops:Array Oper} {m:Nat} {o:Oper} (ho:ops[m]? = some o) (hB:zgZ ops m []=true)
  {hd r:List OI} {i:OI} (h1:jz Y N ops.toList (ops.toList.take m)=some hd) (h2:zcg Y N ops.toList o=some i) (h3:jz Y N ops.toList (ops.toList.drop (m+1))=some r)
  {fr:Fr} {h:H} {fa:Fa} {k:K2} (hfa:FaOk E fa) (hk:zhm hd g fr h fa (fun fr h fa=>opsT [i] g fr h fa (fun fr h fa=>zhm r g fr h fa (fun fr h fa=>k .normal fr h fa)))=0):Runs E P N (.region id ops true) fr h k:=by
 obtain⟨fr1,fa1,hk1,hfa1,hq⟩:=zcz hY hcall _ _ fr fa h1 hfa hk
 obtain⟨fr2,h2',fa2,hk2,hfa2,hs2⟩:=zg1 hY h2 hcall hfa1 hk1
 obtain⟨fr3,fa3,hk3,hfa3,hq3⟩:=zcz hY hcall _ _ fr2 fa2 h3 hfa2 hk2
 refine⟨.normal,fr3,h2',fa3,hk3,hfa3,fun {DS} ρ w a QQ hs hf hN hd hQ=>?_⟩
 have hs1:=zhh hs
 have hC1:Cls E ρ h w.drew { w with drawn:=w.drawn+1 }:=⟨hs1,hs1.refl E⟩
 have hm2:m<ops.size:=(Array.getElem?_eq_some_iff.1 ho).1
 have hB:EvQ.lexTwo .any ops m=true:=by
  simp only[zgZ,Bool.or_eq_true,Bool.and_eq_true,decide_eq_true_eq,List.isEmpty_iff]at hB
  rcases hB with (hB | ⟨⟨hle,_⟩,_⟩) | ⟨_,hB⟩
  ·simp only[EvQ.lexTailP,Bool.and_eq_true,decide_eq_true_eq,List.length_nil]at hB
   omega
  ·omega
  ·exact hB
 refine EvQ.wp_region_two (C:=Cls E ρ h w.drew) m hm hB hC1 ?_
 refine hq ρ w.drew a _ hs1 hf hN hd fun a1 f1 n1 d1 w1 hw1=>?_
 have after:∀ a2 w2,At E N DS ρ h w1 fr2 h2' a2 w2->∃ C2:World->Prop,C2 w2/\wpQuiet P ops C2 (fun a3=>∀ w3,C2 w3->QQ .normal a3 w3) (ops.toList.drop (m+1)) a2:=by
  rintro a2 w2 ⟨ρ2,f2,n2,d2,s2,x2⟩
  refine⟨Cls E ρ2 h2' w2,⟨s2,s2.refl E⟩,?_⟩
  refine hq3 ρ2 w2 a2 _ s2 f2 n2 d2 fun a3 f3 n3 d3 w3 hw3=>?_
  exact hQ a3 w3 ⟨ρ2,f3,n3,d3,hw3.1,((zdA hs).trans hw1.2).trans (x2.trans hw3.2)⟩
 unfold wpOp
 simp only[ho]
 rcases hs2 ρ w1 a1 QQ hw1.1 f1 n1 d1 with ⟨hw,hwp⟩ | ⟨hw,hA⟩
 ·rw[if_pos hw]
  exact .inl (zgO after hwp)
 ·rw[if_neg (by simp[hw])]
  exact after _ _ hA
theorem zaB {ρ:Rho} {h:H} {w:World} (s:Sat E ρ h w) (o:Obj):Sat E ρ h (w.alloc o):=
 ⟨fun p x hp=>O.Is_heap E (fun hl=>by rw[zR,Array.getElem?_push,if_neg (by have:=s.lt E hp hl;omega)]) (s.obj p x hp),s.inj,s.bd⟩
theorem zer {ρ:Rho} {h:H} {w:World} (s:Sat E ρ h w) (o:Obj):Ext ρ h w ρ h (w.alloc o):=
 ⟨Nat.le_refl _,rfl,fun _ _=>rfl,fun p x h1 h2=>by have:=(s.bd p x h2).1;omega,rfl,rfl,rfl,by simp[zR],fun b hb _=>by rw[zR,Array.getElem?_push,if_neg (by omega)],fun _ _ _=>rfl,fun p x _ h1 h2=>⟨x,h1,h2⟩⟩
theorem zlN {ρ:Rho} {h:H} {w:World} (s:Sat E ρ h w) (o:O) (hb:o.bd h.n.toNat) (L:Pl) (hL:∀ p o',h.t.get p=some o'->o'.live=true->(ρ p).b≠L.b) (hi:o.Is E ρ L w.heap):Sat E (zbi ρ h.n L) (h.add o) w:=by
 have ha:∀ i:Ev.P,i.toNat<h.n.toNat->zbi ρ h.n L i=ρ i:=fun i hi=>zcd ρ L hi
 have hg:∀ p o',(h.add o).t.get p=some o'->(p=h.n/\o'=o)\/(p.toNat<h.n.toNat/\h.t.get p=some o'):=by
  intro p o' hp
  simp only[H.add,get_set]at hp
  split at hp
  ·rename_i e;simp at hp;exact .inl ⟨P.toNat_inj e,hp.symm⟩
  ·exact .inr ⟨(s.bd p o' hp).1,hp⟩
 refine⟨fun p o' hp=>?_,fun p q o1 o2 hp hq l1 l2 he=>?_,fun p o' hp=>?_⟩
 ·rcases hg p o' hp with ⟨rfl,rfl⟩ | ⟨h1,hp⟩
  ·rw[jJ];exact O.Is_agree E ha hb hi
  ·rw[ha p h1];exact O.Is_agree E ha (s.bd p o' hp).2 (s.obj p o' hp)
 ·rcases hg p o1 hp with ⟨e1,e2⟩ | ⟨h1,hp1⟩ <;> rcases hg q o2 hq with ⟨e3,e4⟩ | ⟨h2,hq1⟩
  ·rw[e1,e3]
  ·rw[e1,jJ,ha q h2]at he;exact absurd he.symm (hL q o2 hq1 l2)
  ·rw[e3,jJ,ha p h1]at he;exact absurd he (hL p o1 hp1 (jl l1))
  ·rw[ha p h1,ha q h2]at he;exact s.inj p q o1 o2 hp1 hq1 l1 l2 he
 ·have hn:(h.add o).n.toNat=h.n.toNat+1:=by simp[H.add]
  rcases hg p o' hp with ⟨rfl,rfl⟩ | ⟨h1,hp⟩
  ·exact⟨by omega,O.bd_mono (by omega) _ hb⟩
  ·exact⟨by omega,O.bd_mono (by omega) _ (s.bd p o' hp).2⟩
theorem zmL {ρ ρ2:Rho} {h h2:H} {w w2:World} (x:Ext ρ h w ρ2 h2 w2) (hbd:∀ p o,h2.t.get p=some o->p.toNat<h2.n.toNat) (o:O) (L:Pl) (hL:w.heap.size<=L.b):Ext ρ h w (zbi ρ2 h2.n L) (h2.add o) w2:=by
 have hlen:=x.len
 have hn:(h2.add o).n.toNat=h2.n.toNat+1:=by simp[H.add]
 have ho:∀ p:Ev.P,p.toNat<h2.n.toNat->(h2.add o).t.get p=h2.t.get p:=fun p hp=>by
  show (h2.t.set h2.n o).get p=_
  rw[get_set,if_neg (by omega)]
 refine⟨by omega,x.lo,fun p hp=>by rw[zcd ρ2 L (by omega)];exact x.agree p hp,fun p o' h1 hp hl=>?_,x.os,x.tape,x.output,x.size,x.keep,fun p h1 h3=>by rw[ho p (by omega)];exact x.old p h1 h3,fun p o' h1 hp hl=>by rw[ho p (by omega)]at hp;exact x.liv p o' h1 hp hl⟩
 have hp':(h2.t.set h2.n o).get p=some o':=hp
 rw[get_set]at hp'
 split at hp'
 ·rename_i e
  rw[P.toNat_inj e,jJ]
  exact .inl hL
 ·have h4:=hbd p o' hp'
  rw[zcd ρ2 L h4]
  exact x.new p o' h1 hp' hl
def zge (ob:Obj) (s0 b:Nat) (ρ:Rho) (h:H) (w:World):Prop:=w.heap[b]? = some ob/\s0<=b/\∀ p o,h.t.get p=some o->o.live=true->(ρ p).b≠b
theorem zge.step {ob:Obj} {s0 b:Nat} {ρ ρ1:Rho} {h h1:H} {w w1:World} (c:zge ob s0 b ρ h w) (x:Ext ρ h w ρ1 h1 w1):zge ob s0 b ρ1 h1 w1:=by
 obtain⟨c1,c2,c3⟩:=c
 have hb:b<w.heap.size:=jo c1
 refine⟨by rw[x.keep b hb (fun p o hp hl _=>c3 p o hp hl)];exact c1,c2,fun p o hp hl=>?_⟩
 by_cases hn:p.toNat<h.n.toNat
 ·obtain⟨o',h2,h3⟩:=x.liv p o hn hp hl
  rw[x.agree p hn];exact c3 p o' h2 h3
 ·rcases x.new p o (by omega) hp hl with h2 | ⟨q',o',h2,h3,_,h4⟩
  ·omega
  ·rw[<- h4];exact c3 q' o' h2 h3
theorem zf9 {ob:Obj} {s0:Nat} {ρ:Rho} {h:H} {w:World} (s:Sat E ρ h w) (h0:s0<=w.heap.size):zge ob s0 w.heap.size ρ h (w.alloc ob):=
 ⟨by rw[zR,Array.getElem?_push,if_pos rfl],h0,fun p o hp hl=>by have:=s.lt E hp hl;omega⟩
def zdK (vl:Nat->Value) (d:Option Tmp) (lq:Option Nat) (a:Act):Act:=match lq with
 | none=>a
 | some b=>a.put d (vl b)
def zcT (q:Nat) (lq:Option Nat) (L:Array Bool):Array Bool:=match lq with
 | none=>L
 | some _=>L.setIfInBounds q true
def zk7 (ob:Obj) (s0:Nat) (lq:Option Nat) (ρ:Rho) (h:H) (w:World):Prop:=match lq with
 | none=>True
 | some b=>zge ob s0 b ρ h w
def zdc (lq:Option Nat) (n:Nat):Nat:=match lq with
 | none=>n+1
 | some _=>n
theorem zk7.step {ob:Obj} {s0:Nat} {lq:Option Nat} {ρ ρ1:Rho} {h h1:H} {w w1:World} (c:zk7 ob s0 lq ρ h w) (x:Ext ρ h w ρ1 h1 w1):zk7 ob s0 lq ρ1 h1 w1:=by
 cases lq with
 | none=>trivial
 | some b=>exact zge.step c x
theorem zmr {q i:Nat} {lq:Option Nat} {L:Array Bool} (h:i≠q):(zcT q lq L).setIfInBounds i true=zcT q lq (L.setIfInBounds i true):=by
 cases lq with
 | none=>rfl
 | some b=>exact Array.setIfInBounds_comm _ _ (Ne.symm h)
theorem zqL (lq:Option Nat) (n:Nat):zdc lq (n+1)=zdc lq n+1:=by cases lq <;> rfl
theorem put_act {ops:Array Oper} {QQ:Exit->Act->World->Prop} {vl:Nat->Value} {lq:Option Nat} {j:Nat} {oq oj:Oper} (hj:ops[j]? = some oj) (hap:oq.apart ops oj=true) (hsj:∀ cs b,oj.op≠.select cs b) (hp:∀ c a w,¬ QQ (.panic c) a w) {K:Act->World->Prop} {a:Act} {w:World}
  (h:wpOp P ops QQ j (fun a' w'=>K (zdK vl oq.dst lq a') w') a w):wpOp P ops QQ j K (zdK vl oq.dst lq a) w:=by
 cases lq with
 | none=>exact h
 | some b=>exact EvQ.put_op hj hap hsj hp h
theorem znr {ops:Array Oper} {S:World->Prop} {vl:Nat->Value} {lq:Option Nat} {oq oi:Oper} {v:Value} {a:Act} (hap:oq.apart ops oi=true) (hs:∀ cs b,oi.op≠.select cs b) (h:YieldsIf P ops S oi v a):YieldsIf P ops S oi v (zdK vl oq.dst lq a):=by
 obtain⟨h1,h2,h3⟩:=Oper.apart_spec hap
 cases lq with
 | none=>exact h
 | some b=>exact h.of_same (execOp_put oi hs a oq.dst _ h1) (wanted_put oi a oq.dst _ h1)
theorem zu7 {ops:Array Oper} {vl:Nat->Value} {lq:Option Nat} {oq oi:Oper} {v:Value} {a:Act} (hap:oq.apart ops oi=true):(zdK vl oq.dst lq a).put oi.dst v=zdK vl oq.dst lq (a.put oi.dst v):=by
 obtain⟨h1,h2,h3⟩:=Oper.apart_spec hap
 cases lq with
 | none=>rfl
 | some b=>exact Act.put_comm a _ v h2
def AtQ (E:Env) (N:Nat) (DS:List Deferred) (ob:Obj) (s0:Nat) (lq:Option Nat) (ρ:Rho) (h:H) (w:World) (fr':Fr) (h':H) (a':Act) (w':World):Prop:=
 ∃ ρ',yr E ρ' h'.n.toNat fr' a'.tmps/\N<=a'.tmps.size/\a'.defers=DS/\Sat E ρ' h' w'/\Ext ρ h w ρ' h' w'/\zk7 ob s0 lq ρ' h' w'
theorem AtQ.trans {DS:List Deferred} {ob:Obj} {s0:Nat} {lq:Option Nat} {ρ ρ1:Rho} {h h1:H} {w w1:World} (hx:Ext ρ h w ρ1 h1 w1) {fr:Fr} {h':H} {a:Act} {w':World} (s:AtQ E N DS ob s0 lq ρ1 h1 w1 fr h' a w'):AtQ E N DS ob s0 lq ρ h w fr h' a w':=by
 obtain⟨ρ',s1,s2,s3,s4,s5,s6⟩:=s
 exact⟨ρ',s1,s2,s3,s4,hx.trans s5,s6⟩
structure MakesQ (P:Program) (ops:Array Oper) (q:Nat) (oq:Oper) (ob:Obj) (vl:Nat->Value):Prop where
 at_:ops[q]? = some oq
 guard:oq.guard=none
 run:∀ (a:Act) (w:World),(execOp a.eval oq).run P w=.ok (.value (vl w.heap.size)) (w.alloc ob)
theorem MakesQ.op {ops:Array Oper} {q:Nat} {oq:Oper} {ob:Obj} {vl:Nat->Value} (m:MakesQ P ops q oq ob vl) {QQ:Exit->Act->World->Prop} {K:Act->World->Prop} {a:Act} {w:World}
  (h:K (zdK vl oq.dst (some w.heap.size) a) (w.alloc ob)):wpOp P ops QQ q K a w:=by
 unfold wpOp
 simp only[m.at_]
 rw[if_pos (by simp[Region.wanted,m.guard])]
 refine .inl ?_
 unfold Oper.wp
 rw[m.run]
 exact h
theorem MakesQ.keeps {ops:Array Oper} {q:Nat} {oq:Oper} {ob:Obj} {vl:Nat->Value} (m:MakesQ P ops q oq ob vl) {QQ:Exit->Act->World->Prop} {ρ0:Rho} {hS:H} (a:Act) (w:World) (K:Act->World->Prop) (hs:Sat E ρ0 hS w) (h:wpOp P ops QQ q K a w) :
  wpOp P ops QQ q (fun a' w'=>Sat E ρ0 hS w'/\K a' w') a w:=by
 unfold wpOp at h ⊢
 simp only[m.at_]at h ⊢
 rw[if_pos (by simp[Region.wanted,m.guard])]at h ⊢
 refine h.imp (fun h=>?_) id
 unfold Oper.wp at h ⊢
 rw[m.run]at h ⊢
 exact⟨zaB hs _,h⟩
theorem zpR {r:List Nat} {i q:Nat} (h:sub2 r i q=true):i∈r/\∀ j∈r,j=i\/j=q:=by
 simp only[sub2,Bool.and_eq_true,List.contains_iff_mem,List.all_eq_true,Bool.or_eq_true,Nat.beq_eq]at h
 exact h
theorem zh5 {ops:Array Oper} {q i:Nat} {oq oi:Oper} (hq:ops[q]? = some oq) (hi:ops[i]? = some oi) (h:apB ops q i=true):oq.apart ops oi=true:=by
 simpa [apB,hq,hi] using h
theorem apB_ne {ops:Array Oper} {q i:Nat} {oq:Oper} {d:Tmp} (hq:ops[q]? = some oq) (hd:oq.dst=some d) (h:apB ops q i=true):i≠q:=by
 intro e
 subst e
 have h1:=zh5 hq hq h
 obtain⟨_,h2,_⟩:=Oper.apart_spec h1
 exact h2 d hd hd
theorem zpg {fr:Fr} {h:H} {e:Nat} (he:e≠0) {k:List Ev.P->H->Nat}:∀ (ks:List Ky) (ids:List Ev.P) (hS:H),hS.n=h.n->(∀ p o,hS.t.get p=some o->p∈ids/\h.t.get p=some o)->jE zmz (zmB fr h e) ks ids hS k=0 ->
  ∃ ids hS,k ids hS=0/\hS.n=h.n/\∀ p o,hS.t.get p=some o->p∈ids/\h.t.get p=some o
 | [],ids,hS,hn,hi,hk=>⟨ids,hS,hk,hn,hi⟩
 | s::r,ids,hS,hn,hi,hk=>by
  have hk:za6 (fr.get s) (fun id _=>oc (yR h id) (fun o=>zbI hS id o (fun hS=>jE zmz (zmB fr h e) r (id::ids) hS k)) e) (vSl (fr.get s) (fun id _ _=>oc (yR h id) (fun o=>zbI hS id o (fun hS=>jE zmz (zmB fr h e) r (id::ids) hS k)) e) e)=0:=hk
  have inner:∀ id:Ev.P,oc (yR h id) (fun o=>zbI hS id o (fun hS=>jE zmz (zmB fr h e) r (id::ids) hS k)) e=0->∃ ids hS,k ids hS=0/\hS.n=h.n/\∀ p o,hS.t.get p=some o->p∈ids/\h.t.get p=some o:=by
   intro id hk
   obtain⟨o,ho,hk⟩:=z9 hk he
   rw[yk]at ho
   rw[zaH]at hk
   refine zpg he r (id::ids) (hS.put id o) hn (fun p o' hp=>?_) hk
   simp only[H.put,get_set]at hp
   split at hp
   ·rename_i e
    have:=P.toNat_inj e
    subst this
    cases hp
    exact⟨List.mem_cons_self ..,ho⟩
   ·obtain⟨h1,h2⟩:=hi p o' hp
    exact⟨List.mem_cons_of_mem _ h1,h2⟩
  unfold za6 at hk
  split at hk
  ·exact inner _ hk
  ·obtain⟨_,id,_,_,_,hk,_⟩:=vSl_ok hk he
   exact inner _ hk
theorem ztt {fr:Fr} {h:H} {e:Nat} (he:e≠0) {k:List Ev.P->H->Nat} (ks:List Ky) (hk:zmA fr h e ks k=0) :
  ∃ ids hS,k ids hS=0/\hS.n=h.n/\(∀ p o,hS.t.get p=some o->p∈ids)/\za5 hS h/\∀ (E:Env) ρ w,Sat E ρ h w->Sat E ρ hS w:=by
 unfold zmA at hk
 rw[zbA]at hk
 obtain⟨ids,hS,h1,h2,h3⟩:=zpg (h:=h) (fr:=fr) (k:=k) he ks [] ⟨h.n,h.lo,.e⟩ rfl (fun p o hp=>by
  have:(PT.e:PT O).get p=none:=by cases p <;> rfl
  rw[show (⟨h.n,h.lo,.e⟩:H).t=PT.e from rfl,this]at hp;cases hp) hk
 refine⟨ids,hS,h1,h2,fun p o hp=>(h3 p o hp).1,fun p o hp _=>(h3 p o hp).2,fun E ρ w s=>⟨fun p o hp=>s.obj p o (h3 p o hp).2,fun p q o o' hp hq l1 l2 he=>s.inj p q o o' (h3 p o hp).2 (h3 q o' hq).2 l1 l2 he,fun p o hp=>by rw[h2];exact s.bd p o (h3 p o hp).2⟩⟩
theorem zjj {hS h1:H}:∀ (ids:List Ev.P),zdb ids hS h1=true->∀ p∈ids,hS.t.get p=h1.t.get p
 | [],_,p,hp=>by cases hp
 | id::r,hb,p,hp=>by
  obtain⟨h2,h3⟩:zcj (yR hS id) (yR h1 id)=true/\zdb r hS h1=true:=by
   have hb:bc (zcj (yR hS id) (yR h1 id)) (zdb r hS h1) false=true:=hb
   cases hh:zcj (yR hS id) (yR h1 id) <;> rw[hh]at hb
   ·cases hb
   ·exact⟨rfl,hb⟩
  rcases List.mem_cons.1 hp with rfl | hp
  ·have:=zby h2
   rw[yk,yk]at this;exact this
  ·exact zjj r h3 p hp
theorem zdw {ids:List Ev.P} {hS h1:H} (hids:∀ p o,hS.t.get p=some o->p∈ids) (hb:zdb ids hS h1=true):za5 hS h1:=fun p o hp _=>by
 rw[<- zjj ids hb p (hids p o hp)];exact hp
theorem zgr {ops:Array Oper} {QQ:Exit->Act->World->Prop} {i:Nat} {o:Oper} {K:Act->World->Prop} {a:Act} {w:World} (ho:ops[i]? = some o) (hw:Region.wanted o (yielded ops a.tmps)=true) (h:o.wp P a w K QQ):wpOp P ops QQ i K a w:=by
 unfold wpOp
 simp only[ho]
 rw[if_pos hw]
 exact .inl h
theorem zez {ops:Array Oper} {QQ:Exit->Act->World->Prop} {i:Nat} {o:Oper} {K:Act->World->Prop} {a:Act} {w:World} (ho:ops[i]? = some o) (hw:Region.wanted o (yielded ops a.tmps)=false) (h:K (a.put o.dst undef) w):wpOp P ops QQ i K a w:=by
 unfold wpOp
 simp only[ho]
 rw[if_neg (by rw[hw];simp)]
 exact h
theorem znp {ops:Array Oper} {QQ:Exit->Act->World->Prop} {i:Nat} {K K':Act->World->Prop} {a:Act} {w:World} (h:wpOp P ops QQ i K a w) (hk:∀ a1 w1,K a1 w1->K' a1 w1):wpOp P ops QQ i K' a w:=wpOp_mono (fun a' w' h'=>hk a' w' h') h
def AtS (E:Env) (N:Nat) (DS:List Deferred) (ob:Obj) (s0:Nat) (ρ0:Rho) (hS:H) (lq:Option Nat) (ρ:Rho) (h:H) (w:World) (fr':Fr) (h':H) (a':Act) (w':World):Prop:=
 ∃ ρ',yr E ρ' h'.n.toNat fr' a'.tmps/\N<=a'.tmps.size/\a'.defers=DS/\Sat E ρ' h' w'/\Ext ρ h w ρ' h' w'/\zk7 ob s0 lq ρ' h' w'/\s0<=w'.heap.size/\hS.n.toNat<=h'.n.toNat/\za5 hS h'/\Sat E ρ0 hS w'/\∀ p:Ev.P,p.toNat<hS.n.toNat->ρ' p=ρ0 p
theorem AtS.trans {DS:List Deferred} {ob:Obj} {s0:Nat} {ρ0:Rho} {hS:H} {lq:Option Nat} {ρ ρ1:Rho} {h h1:H} {w w1:World} (hx:Ext ρ h w ρ1 h1 w1) {fr:Fr} {h':H} {a:Act} {w':World} (s:AtS E N DS ob s0 ρ0 hS lq ρ1 h1 w1 fr h' a w'):AtS E N DS ob s0 ρ0 hS lq ρ h w fr h' a w':=by
 obtain⟨ρ',s1,s2,s3,s4,s5,s6⟩:=s
 exact⟨ρ',s1,s2,s3,s4,hx.trans s5,s6⟩
theorem zjB {Y:Ty} {all:List Oper}:∀ (r:List (Bool × Nat)) {s:List (Bool × Nat)} {l:List (Bool × OI)},zad Y N all (r ++ s)=some l->∃ l1 l2,zad Y N all r=some l1/\zad Y N all s=some l2/\l=l1 ++ l2
 | [],s,l,h=>⟨[],l,rfl,h,rfl⟩
 | (b,i)::r,s,l,h=>by
  obtain⟨o,x,l',h1,h2,h3,rfl⟩:=zaV (show zad Y N all ((b,i)::(r ++ s))=some l from h)
  obtain⟨l1,l2,h4,h5,rfl⟩:=zjB r h3
  exact⟨(b,x)::l1,l2,by simp only[zad,h1,h4,h2],h5,rfl⟩
theorem zjf {ids:List Ev.P} {hS:H} {g:Ctx} {k:K1}:∀ (l1 l2:List (Bool × OI)) (fr:Fr) (h:H) (fa:Fa),j9 ids hS (l1 ++ l2) g fr h fa k=j9 ids hS l1 g fr h fa (fun fr h fa=>j9 ids hS l2 g fr h fa k)
 | [],l2,fr,h,fa=>rfl
 | o::r,l2,fr,h,fa=>by
  show kStep ids hS o g fr h fa (fun fr h fa=>j9 ids hS (r ++ l2) g fr h fa k)=kStep ids hS o g fr h fa (fun fr h fa=>j9 ids hS r g fr h fa (fun fr h fa=>j9 ids hS l2 g fr h fa k))
  congr 1
  funext fr h fa
  exact zjf r l2 fr h fa
theorem zfE {Y:Ty} (hY:TyOk P Y) {g:Ctx} (hcall:zk E P g.call) {ops:Array Oper} (hsel:Region.noSelect ops=true) {q:Nat} {oq:Oper} {ob:Obj} {vl:Nat->Value} (m:MakesQ P ops q oq ob vl) {dq:Tmp} (hdq:oq.dst=some dq) {D tl:List Nat} (hrest:EvQ.restOkQ ops D q=true) (hqD:q∉D) {ids:List Ev.P} {hS:H} (hids:∀ p o,hS.t.get p=some o->p∈ids) {k:K1} :
  ∀ (ord:List (Bool × Nat)) (l:List (Bool × OI)) (fr:Fr) (h:H) (fa:Fa),zad Y N ops.toList ord=some l->FaOk E fa->j9 ids hS l g fr h fa k=0 ->
  ∃ fr' h' fa',k fr' h' fa'=0/\FaOk E fa'/\∀ (lq:Option Nat) L,goK ops D q tl ord L=true->EvQ.Closed ops (zcT q lq L)->∀ {DS:List Deferred} s0 ρ0 ρ w a QQ,s0<=w.heap.size->hS.n.toNat<=h.n.toNat->za5 hS h->Sat E ρ0 hS w->(∀ p:Ev.P,p.toNat<hS.n.toNat->ρ p=ρ0 p)->Sat E ρ h w->yr E ρ h.n.toNat fr (a:Act).tmps->N<=a.tmps.size->a.defers=DS->zk7 ob s0 lq ρ h w ->
   (∀ c a w,¬ QQ (.panic c) a w)->(∀ lq' a' w' L',AtS E N DS ob s0 ρ0 hS lq' ρ h w fr' h' a' w'->endF ops D q tl L'=true->EvQ.wpAnyT P ops QQ (Sat E ρ0 hS) D (zdc lq' tl.length) (zcT q lq' L') (zdK vl oq.dst lq' a') w') ->
   EvQ.wpAnyT P ops QQ (Sat E ρ0 hS) D (zdc lq (tl.length+ord.length)) (zcT q lq L) (zdK vl oq.dst lq a) w
 | [],l,fr,h,fa,hl,hfa,hk=>by
  simp[zad]at hl;subst hl
  refine⟨fr,h,fa,hk,hfa,fun lq L hB hcl {DS} s0 ρ0 ρ w a QQ h0 hn hke hs0 ha hs hf hN hd hc hp hq=>?_⟩
  exact hq lq a w L ⟨ρ,hf,hN,hd,hs,hs.refl E,hc,h0,hn,hke,hs0,ha⟩ hB
 | (true,i)::r,l,fr,h,fa,hl,hfa,hk=>by
  obtain⟨o,x,l2,ho,hx,hl2,rfl⟩:=zaV hl
  rw[jD,Array.getElem?_toList]at ho
  have hk:OI.go qOp hNo x g fr hS fa (fun fr _ fa=>j9 ids hS l2 g fr h fa k)=0:=hk
  obtain⟨d,gg,hd,hg,hxx⟩:=zao hx
  rcases hxx with ⟨ii,hi,rfl⟩ | ⟨cl,f0,f,ll,hop,hcal,hf0,hll,rfl⟩
  rotate_left
  ·exact absurd (show err g 63=0 from hk) (yC _ _)
  have hk:qOp d gg ii g fr hS fa (fun fr _ fa=>j9 ids hS l2 g fr h fa k)=0:=hk
  have fin:∀ fr1 fa1,FaOk E fa1->j9 ids hS l2 g fr1 h fa1 k=0->(∀ ρ0 ρ w a,hS.n.toNat<=h.n.toNat->(∀ p:Ev.P,p.toNat<hS.n.toNat->ρ p=ρ0 p)->Sat E ρ0 hS w->yr E ρ h.n.toNat fr (a:Act).tmps->N<=a.tmps.size ->
     ∃ v,YieldsIf P ops (Sat E ρ0 hS) o v a/\yr E ρ h.n.toNat fr1 (a.put o.dst v).tmps/\N<=(a.put o.dst v).tmps.size/\(a.put o.dst v).defers=a.defers) ->
    ∃ fr' h' fa',k fr' h' fa'=0/\FaOk E fa'/\∀ (lq:Option Nat) L,goK ops D q tl ((true,i)::r) L=true->EvQ.Closed ops (zcT q lq L)->∀ {DS:List Deferred} s0 ρ0 ρ w a QQ,s0<=w.heap.size->hS.n.toNat<=h.n.toNat->za5 hS h->Sat E ρ0 hS w->(∀ p:Ev.P,p.toNat<hS.n.toNat->ρ p=ρ0 p)->Sat E ρ h w->yr E ρ h.n.toNat fr (a:Act).tmps->N<=a.tmps.size->a.defers=DS->zk7 ob s0 lq ρ h w ->
     (∀ c a w,¬ QQ (.panic c) a w)->(∀ lq' a' w' L',AtS E N DS ob s0 ρ0 hS lq' ρ h w fr' h' a' w'->endF ops D q tl L'=true->EvQ.wpAnyT P ops QQ (Sat E ρ0 hS) D (zdc lq' tl.length) (zcT q lq' L') (zdK vl oq.dst lq' a') w') ->
     EvQ.wpAnyT P ops QQ (Sat E ρ0 hS) D (zdc lq (tl.length+((true,i)::r).length)) (zcT q lq L) (zdK vl oq.dst lq a) w:=by
   intro fr1 fa1 hfa1 hk1 hy
   obtain⟨fr2,h2,fa2,hk2,hfa2,hr2⟩:=zfE hY hcall hsel m hdq hrest hqD hids r l2 fr1 h fa1 hl2 hfa1 hk1
   refine⟨fr2,h2,fa2,hk2,hfa2,fun lq L hB hcl {DS} s0 ρ0 ρ w a QQ h0 hn hke hs0 ha hs hf hN hdf hc hp hq=>?_⟩
   simp only[goK,Bool.and_eq_true]at hB
   obtain⟨⟨⟨⟨hD,hap⟩,hfr1,hrd1⟩,hfr2,hrd2⟩,hB⟩:=hB
   have hap':=zh5 m.at_ ho hap
   have hne:=apB_ne m.at_ hdq hap
   obtain⟨v,hyy,g1,g2,g3⟩:=hy ρ0 ρ w a hn ha hs0 hf hN
   have hready:(Region.ready .any ops (zcT q lq L)).contains i=true:=by cases lq <;> assumption
   have hfree:Region.free .any ops (zcT q lq L) i=true:=by cases lq <;> assumption
   rw[show tl.length+((true,i)::r).length=tl.length+r.length+1 from rfl,zqL]
   refine EvQ.T_takeQ hrest hqD (fun a w K hs h=>m.keeps a w K hs h) hcl (i:=i) ho (by simpa using hD) hsel hfree hready (fun c a w hh=>absurd hh (hp c _ w)) (znr hap' (fun cs b=>Region.noSelect_spec hsel i o cs b ho) hyy) hs0 ?_
   rw[zu7 hap']
   have hcl2:=hcl.add (show i∈Region.ready .any ops (zcT q lq L) by simpa using hready)
   rw[zmr hne]at hcl2 ⊢
   exact hr2 lq _ hB hcl2 s0 ρ0 ρ w _ QQ h0 hn hke hs0 ha hs g1 g2 (g3.trans hdf) hc hp hq
  rcases zaL hg hfa hk with ⟨fa1,hfa1,hk,hw⟩ | ⟨fa1,hfa1,hk,hw⟩
  ·obtain⟨hst,hk⟩:=zK hk (yC _ _)
   obtain⟨v,h',hk,zr⟩:=zbQ hY hi hst hk (yC _ _)
   obtain⟨fr1,hk,hput⟩:=zba hfa1 hd hk
   refine fin fr1 fa1 hfa1 hk fun ρ0 ρ w a hn ha hs0 hf hN=>?_
   have conv:∀ w,Sat E ρ0 hS w->Sat E ρ hS w:=fun w s=>zdn (ρ0:=ρ) (h:=hS) ⟨fun p o hp=>O.Is_agree E (fun i hi=>ha i hi) (s.bd p o hp).2 (by rw[ha p (s.bd p o hp).1];exact s.obj p o hp),
    fun p q o o' hp hq l1 l2 he=>s.inj p q o o' hp hq l1 l2 (by rw[<- ha p (s.bd p o hp).1,<- ha q (s.bd q o' hq).1];exact he),s.bd⟩ s (fun p o hp _=>hp) (fun p hp=>(ha p hp).symm)
   obtain⟨g1,g2,g3⟩:=hput ρ _ a hf hN (zr E ρ _ a w hn hf (conv w hs0)).2
   exact⟨_,.inl ⟨hw ρ _ a hf,fun w' hw'=>(zr E ρ _ a w' hn hf (conv w' hw')).1⟩,g1,g2,g3⟩
  ·obtain⟨fr1,hk,hput⟩:=zav hd hk
   refine fin fr1 fa1 hfa1 hk fun ρ0 ρ w a hn ha hs0 hf hN=>?_
   obtain⟨g1,g2,g3⟩:=hput E ρ h.n.toNat a hf hN (by trivial)
   exact⟨_,.inr ⟨hw ρ _ a hf,rfl⟩,g1,g2,g3⟩
 | (false,i)::r,l,fr,h,fa,hl,hfa,hk=>by
  obtain⟨o,x,l2,ho,hx,hl2,rfl⟩:=zaV hl
  rw[jD,Array.getElem?_toList]at ho
  have hk:OI.go (kOp ids hS) (kCall ids hS) x g fr h fa (fun fr h fa=>j9 ids hS l2 g fr h fa k)=0:=hk
  obtain⟨d,gg,hd,hg,hxx⟩:=zao hx
  have one:∀ fr1 h1 fa1,FaOk E fa1->j9 ids hS l2 g fr1 h1 fa1 k=0 ->
    (∀ {DS:List Deferred} ρ w a QQ,(∀ p o,hS.t.get p=some o->p.toNat<hS.n.toNat)->hS.n.toNat<=h.n.toNat->za5 hS h->Sat E ρ h w->yr E ρ h.n.toNat fr (a:Act).tmps->N<=a.tmps.size->a.defers=DS->wpOp P ops QQ i (fun a1 w1=>At E N DS ρ h w fr1 h1 a1 w1/\za5 hS h1) a w) ->
    ∃ fr' h' fa',k fr' h' fa'=0/\FaOk E fa'/\∀ (lq:Option Nat) L,goK ops D q tl ((false,i)::r) L=true->EvQ.Closed ops (zcT q lq L)->∀ {DS:List Deferred} s0 ρ0 ρ w a QQ,s0<=w.heap.size->hS.n.toNat<=h.n.toNat->za5 hS h->Sat E ρ0 hS w->(∀ p:Ev.P,p.toNat<hS.n.toNat->ρ p=ρ0 p)->Sat E ρ h w->yr E ρ h.n.toNat fr (a:Act).tmps->N<=a.tmps.size->a.defers=DS->zk7 ob s0 lq ρ h w ->
     (∀ c a w,¬ QQ (.panic c) a w)->(∀ lq' a' w' L',AtS E N DS ob s0 ρ0 hS lq' ρ h w fr' h' a' w'->endF ops D q tl L'=true->EvQ.wpAnyT P ops QQ (Sat E ρ0 hS) D (zdc lq' tl.length) (zcT q lq' L') (zdK vl oq.dst lq' a') w') ->
     EvQ.wpAnyT P ops QQ (Sat E ρ0 hS) D (zdc lq (tl.length+((false,i)::r).length)) (zcT q lq L) (zdK vl oq.dst lq a) w:=by
   intro fr1 h1 fa1 hfa1 hk1 hstep
   obtain⟨fr2,h2,fa2,hk2,hfa2,hr2⟩:=zfE hY hcall hsel m hdq hrest hqD hids r l2 fr1 h1 fa1 hl2 hfa1 hk1
   refine⟨fr2,h2,fa2,hk2,hfa2,?_⟩
   have za9:∀ (lq:Option Nat) L,goK ops D q tl ((false,i)::r) L=true->i∈Region.ready .any ops (zcT q lq L)->EvQ.Closed ops (zcT q lq L)->∀ {DS:List Deferred} s0 ρ0 ρ w a QQ,s0<=w.heap.size->hS.n.toNat<=h.n.toNat->za5 hS h->Sat E ρ0 hS w->(∀ p:Ev.P,p.toNat<hS.n.toNat->ρ p=ρ0 p)->Sat E ρ h w->yr E ρ h.n.toNat fr (a:Act).tmps->N<=a.tmps.size->a.defers=DS->zk7 ob s0 lq ρ h w ->
     (∀ c a w,¬ QQ (.panic c) a w)->(∀ lq' a' w' L',AtS E N DS ob s0 ρ0 hS lq' ρ h w fr2 h2 a' w'->endF ops D q tl L'=true->EvQ.wpAnyT P ops QQ (Sat E ρ0 hS) D (zdc lq' tl.length) (zcT q lq' L') (zdK vl oq.dst lq' a') w') ->
     wpOp P ops QQ i (fun a' w'=>Sat E ρ0 hS w'/\EvQ.wpAnyT P ops QQ (Sat E ρ0 hS) D (zdc lq (tl.length+r.length)) ((zcT q lq L).setIfInBounds i true) a' w') (zdK vl oq.dst lq a) w:=by
    intro lq L hB hir hcl DS s0 ρ0 ρ w a QQ h0 hn hke hs0 ha hs hf hN hdf hc hp hq
    simp only[goK,Bool.and_eq_true,decide_eq_true_eq]at hB
    obtain⟨⟨⟨⟨hD,hap⟩,hready⟩,hready2⟩,hB⟩:=hB
    have hne:=apB_ne m.at_ hdq hap
    refine put_act ho (zh5 m.at_ ho hap) (fun cs b=>Region.noSelect_spec hsel i o cs b ho) hp ?_
    refine znp (hstep ρ w a QQ (fun p o hp=>(hs0.bd p o hp).1) hn hke hs hf hN hdf) ?_
    rintro a1 w1 ⟨⟨ρ1,f1,n1,d1,s1,x1⟩,hke1⟩
    have ha1:∀ p:Ev.P,p.toNat<hS.n.toNat->ρ1 p=ρ0 p:=fun p hp=>by rw[x1.agree p (by omega),ha p hp]
    have hs1:Sat E ρ0 hS w1:=zdn hs0 s1 hke1 ha1
    refine⟨hs1,?_⟩
    have hcl2:=hcl.add hir
    rw[zmr hne]at hcl2 ⊢
    exact hr2 lq _ hB hcl2 s0 ρ0 ρ1 w1 a1 QQ (Nat.le_trans h0 x1.size) (Nat.le_trans hn x1.len) hke1 hs1 ha1 s1 f1 n1 d1 (hc.step x1) hp (fun lq' a' w' L' hA=>hq lq' a' w' L' (hA.trans x1))
   have main:∀ b L,goK ops D q tl ((false,i)::r) L=true->EvQ.Closed ops (L.setIfInBounds q true)->∀ {DS:List Deferred} s0 ρ0 ρ w a QQ,s0<=w.heap.size->hS.n.toNat<=h.n.toNat->za5 hS h->Sat E ρ0 hS w->(∀ p:Ev.P,p.toNat<hS.n.toNat->ρ p=ρ0 p)->Sat E ρ h w->yr E ρ h.n.toNat fr (a:Act).tmps->N<=a.tmps.size->a.defers=DS->zge ob s0 b ρ h w ->
     (∀ c a w,¬ QQ (.panic c) a w)->(∀ lq' a' w' L',AtS E N DS ob s0 ρ0 hS lq' ρ h w fr2 h2 a' w'->endF ops D q tl L'=true->EvQ.wpAnyT P ops QQ (Sat E ρ0 hS) D (zdc lq' tl.length) (zcT q lq' L') (zdK vl oq.dst lq' a') w') ->
     EvQ.wpAnyT P ops QQ (Sat E ρ0 hS) D (tl.length+r.length+1) (L.setIfInBounds q true) (zdK vl oq.dst (some b) a) w:=by
    intro b L hB hcl DS s0 ρ0 ρ w a QQ h0 hn hke hs0 ha hs hf hN hdf hc hp hq
    have hB':=hB
    simp only[goK,Bool.and_eq_true,decide_eq_true_eq]at hB'
    obtain⟨⟨⟨⟨hD,hap⟩,hready⟩,hready2⟩,_⟩:=hB'
    refine EvQ.T_some (i:=i) (by simpa using hD) (by rw[hready2];simp) fun j hj=>?_
    rw[hready2]at hj
    have hj:j=i:=by simpa using hj
    subst hj
    exact za9 (some b) L hB (by show j∈Region.ready .any ops (L.setIfInBounds q true);rw[hready2];simp) hcl s0 ρ0 ρ w a QQ h0 hn hke hs0 ha hs hf hN hdf hc hp hq
   intro lq L hB hcl DS s0 ρ0 ρ w a QQ h0 hn hke hs0 ha hs hf hN hdf hc hp hq
   cases lq with
   | some b=>exact main b L hB hcl s0 ρ0 ρ w a QQ h0 hn hke hs0 ha hs hf hN hdf hc hp hq
   | none=>
    have hB':=hB
    simp only[goK,Bool.and_eq_true,decide_eq_true_eq]at hB'
    obtain⟨⟨⟨⟨hD,hap⟩,hready⟩,hready2⟩,_⟩:=hB'
    obtain⟨hi,hsub⟩:=zpR hready
    refine EvQ.T_some (fuel:=tl.length+r.length+1) (i:=i) (by simpa using hD) hi fun j hj=>?_
    rcases hsub j hj with rfl | rfl
    ·exact za9 none L hB hi hcl s0 ρ0 ρ w a QQ h0 hn hke hs0 ha hs hf hN hdf hc hp hq
    ·exact m.op ⟨zaB hs0 _,main _ L hB (EvQ.Closed.add hcl hj) s0 ρ0 ρ _ a QQ (by simp[zR];omega) hn hke (zaB hs0 _) ha (zaB hs _) hf hN hdf (zf9 hs h0) hp (fun lq' a' w' L' hA=>hq lq' a' w' L' (hA.trans (zer hs _)))⟩
  rcases hxx with ⟨ii,hi,rfl⟩ | ⟨cl,f0,f,ll,hop,hcal,hf0,hll,rfl⟩
  ·have hk:zca g gg fr fa (fun fa=>evI ii fr h (fun v h1=>bc (zdb ids hS h1) (zb2 d fa v fr (fun fr=>j9 ids hS l2 g fr h1 fa k)) (err g 68)) (err g (zbp ii))) (fun fa=>zb3 d (.tup []) fr (fun fr=>j9 ids hS l2 g fr h fa k))=0:=hk
   rcases zaL hg hfa hk with ⟨fa0,hfa0,hk,hw⟩ | ⟨fa0,hfa0,hk,hw⟩
   ·obtain⟨v,h1,hk,zr⟩:=zet hY hi hk (yC _ _)
    obtain⟨hkp,hk⟩:=zK hk (yC _ _)
    have hkeep:=zdw hids hkp
    obtain⟨fr1,hk,hput⟩:=zba hfa0 hd hk
    refine one fr1 h1 fa0 hfa0 hk fun {DS} ρ w a QQ hbd hn hke hs hf hN hdf=>zgr ho (hw ρ _ a hf) ?_
    obtain⟨ρ',w',nx,hr,hnx,hs',hx',hb⟩:=zr E ρ a w hf hs
    obtain⟨g1,g2,g3⟩:=hput ρ' _ a (hf.mono hx'.len hx'.agree) hN hb
    unfold Oper.wp
    rw[hr]
    have hgo:At E N DS ρ h w fr1 h1 (a.put o.dst (v.γ E ρ')) w'/\za5 hS h1:=⟨⟨ρ',g1,g2,g3.trans hdf,hs',hx'⟩,hkeep⟩
    rcases hnx with rfl | ⟨rfl,rfl⟩
    ·exact hgo
    ·exact hgo
   ·obtain⟨fr1,hk,hput⟩:=zav hd hk
    refine one fr1 h fa0 hfa0 hk fun {DS} ρ w a QQ hbd hn hke hs hf hN hdf=>zez ho (hw ρ _ a hf) ?_
    obtain⟨g1,g2,g3⟩:=hput E ρ h.n.toNat a hf hN (by trivial)
    exact⟨⟨ρ,g1,g2,g3.trans hdf,hs,hs.refl E⟩,hke⟩
  ·have hk:zca g gg fr fa (fun fa=>zdg f ll g fr h fa (fun v h1 fa=>bc (zdb ids hS h1) (zb3 d v fr (fun fr=>j9 ids hS l2 g fr h1 fa k)) (err g 70))) (fun fa=>zb3 d (.tup []) fr (fun fr=>j9 ids hS l2 g fr h fa k))=0:=hk
   rcases zaL hg hfa hk with ⟨fa0,hfa0,hk,hw⟩ | ⟨fa0,hfa0,hk,hw⟩
   ·obtain⟨F,vl,v,h1,fa1,hk,hfa1,hr,hdo⟩:=zfe hop hcal hf0 hll hcall hfa0 hk
    obtain⟨hkp,hk⟩:=zK hk (yC _ _)
    have hkeep:=zdw hids hkp
    obtain⟨fr1,hk,hput⟩:=zav hd hk
    refine one fr1 h1 fa1 hfa1 hk fun {DS} ρ w a QQ hbd hn hke hs hf hN hdf=>zgr ho (hw ρ _ a hf) ?_
    obtain⟨hvb,hex⟩:=hr ρ _ a hf
    unfold Oper.wp
    rw[hex,Oper.upon_enter]
    refine(hdo ρ w hvb hs).mono ?_
    rintro e w' ⟨ρ',rfl,hs',hx',hb⟩
    obtain⟨g1,g2,g3⟩:=hput E ρ' _ a (hf.mono hx'.len hx'.agree) hN hb
    exact⟨⟨ρ',g1,g2,g3.trans hdf,hs',hx'⟩,hkeep⟩
   ·obtain⟨fr1,hk,hput⟩:=zav hd hk
    refine one fr1 h fa0 hfa0 hk fun {DS} ρ w a QQ hbd hn hke hs hf hN hdf=>zez ho (hw ρ _ a hf) ?_
    obtain⟨g1,g2,g3⟩:=hput E ρ h.n.toNat a hf hN (by trivial)
    exact⟨⟨ρ,g1,g2,g3.trans hdf,hs,hs.refl E⟩,hke⟩
theorem zjg {Y:Ty} (hY:TyOk P Y) {g:Ctx} (hcall:zk E P g.call) {ops:Array Oper} {D:List Nat} {ids:List Ev.P} {hS:H} (hids:∀ p o,hS.t.get p=some o->p∈ids) {k:K1} :
  ∀ (tl:List Nat) (l:List (Bool × OI)) (fr:Fr) (h:H) (fa:Fa),zad Y N ops.toList (tl.map (fun i=>(false,i)))=some l->FaOk E fa->j9 ids hS l g fr h fa k=0 ->
  ∃ fr' h' fa',k fr' h' fa'=0/\FaOk E fa'/\∀ L,zfO ops D tl L=true->∀ {DS:List Deferred} ρ0 ρ w a QQ,hS.n.toNat<=h.n.toNat->za5 hS h->Sat E ρ0 hS w->(∀ p:Ev.P,p.toNat<hS.n.toNat->ρ p=ρ0 p)->Sat E ρ h w->yr E ρ h.n.toNat fr (a:Act).tmps->N<=a.tmps.size->a.defers=DS ->
   (∀ a' w',At E N DS ρ h w fr' h' a' w'->QQ .normal a' w')->EvQ.wpAnyT P ops QQ (Sat E ρ0 hS) D tl.length L a w
 | [],l,fr,h,fa,hl,hfa,hk=>by
  simp[zad]at hl;subst hl
  refine⟨fr,h,fa,hk,hfa,fun L hB {DS} ρ0 ρ w a QQ hn hke hs0 ha hs hf hN hd hq=>?_⟩
  simp only[zfO,Bool.and_eq_true]at hB
  exact EvQ.T_done hB.2 (wpAny_done (by simpa using hB.1) (hq a w ⟨ρ,hf,hN,hd,hs,hs.refl E⟩) _)
 | i::r,l,fr,h,fa,hl,hfa,hk=>by
  obtain⟨o,x,l2,ho,hx,hl2,rfl⟩:=zaV (show zad Y N ops.toList ((false,i)::r.map (fun i=>(false,i)))=some l from hl)
  rw[jD,Array.getElem?_toList]at ho
  have hk:OI.go (kOp ids hS) (kCall ids hS) x g fr h fa (fun fr h fa=>j9 ids hS l2 g fr h fa k)=0:=hk
  obtain⟨d,gg,hd,hg,hxx⟩:=zao hx
  have one:∀ fr1 h1 fa1,FaOk E fa1->j9 ids hS l2 g fr1 h1 fa1 k=0 ->
    (∀ {DS:List Deferred} ρ w a QQ,(∀ p o,hS.t.get p=some o->p.toNat<hS.n.toNat)->hS.n.toNat<=h.n.toNat->za5 hS h->Sat E ρ h w->yr E ρ h.n.toNat fr (a:Act).tmps->N<=a.tmps.size->a.defers=DS->wpOp P ops QQ i (fun a1 w1=>At E N DS ρ h w fr1 h1 a1 w1/\za5 hS h1) a w) ->
    ∃ fr' h' fa',k fr' h' fa'=0/\FaOk E fa'/\∀ L,zfO ops D (i::r) L=true->∀ {DS:List Deferred} ρ0 ρ w a QQ,hS.n.toNat<=h.n.toNat->za5 hS h->Sat E ρ0 hS w->(∀ p:Ev.P,p.toNat<hS.n.toNat->ρ p=ρ0 p)->Sat E ρ h w->yr E ρ h.n.toNat fr (a:Act).tmps->N<=a.tmps.size->a.defers=DS ->
     (∀ a' w',At E N DS ρ h w fr' h' a' w'->QQ .normal a' w')->EvQ.wpAnyT P ops QQ (Sat E ρ0 hS) D (i::r).length L a w:=by
   intro fr1 h1 fa1 hfa1 hk1 hstep
   obtain⟨fr2,h2,fa2,hk2,hfa2,hr2⟩:=zjg hY hcall hids r l2 fr1 h1 fa1 hl2 hfa1 hk1
   refine⟨fr2,h2,fa2,hk2,hfa2,fun L hB {DS} ρ0 ρ w a QQ hn hke hs0 ha hs hf hN hdf hq=>?_⟩
   simp only[zfO,Bool.and_eq_true,decide_eq_true_eq]at hB
   obtain⟨⟨⟨hD,hlt⟩,hready⟩,hB⟩:=hB
   refine EvQ.T_one (fuel:=r.length) (i:=i) (by simpa using hD) hready ?_
   refine znp (hstep ρ w a QQ (fun p o hp=>(hs0.bd p o hp).1) hn hke hs hf hN hdf) ?_
   rintro a1 w1 ⟨⟨ρ1,f1,n1,d1,s1,x1⟩,hke1⟩
   have ha1:∀ p:Ev.P,p.toNat<hS.n.toNat->ρ1 p=ρ0 p:=fun p hp=>by rw[x1.agree p (by omega),ha p hp]
   have hs1:Sat E ρ0 hS w1:=zdn hs0 s1 hke1 ha1
   exact⟨hs1,hr2 _ hB ρ0 ρ1 w1 a1 QQ (Nat.le_trans hn x1.len) hke1 hs1 ha1 s1 f1 n1 d1 (fun a' w' hA=>hq a' w' (hA.trans x1))⟩
  rcases hxx with ⟨ii,hi,rfl⟩ | ⟨cl,f0,f,ll,hop,hcal,hf0,hll,rfl⟩
  ·have hk:zca g gg fr fa (fun fa=>evI ii fr h (fun v h1=>bc (zdb ids hS h1) (zb2 d fa v fr (fun fr=>j9 ids hS l2 g fr h1 fa k)) (err g 68)) (err g (zbp ii))) (fun fa=>zb3 d (.tup []) fr (fun fr=>j9 ids hS l2 g fr h fa k))=0:=hk
   rcases zaL hg hfa hk with ⟨fa0,hfa0,hk,hw⟩ | ⟨fa0,hfa0,hk,hw⟩
   ·obtain⟨v,h1,hk,zr⟩:=zet hY hi hk (yC _ _)
    obtain⟨hkp,hk⟩:=zK hk (yC _ _)
    have hkeep:=zdw hids hkp
    obtain⟨fr1,hk,hput⟩:=zba hfa0 hd hk
    refine one fr1 h1 fa0 hfa0 hk fun {DS} ρ w a QQ hbd hn hke hs hf hN hdf=>zgr ho (hw ρ _ a hf) ?_
    obtain⟨ρ',w',nx,hr,hnx,hs',hx',hb⟩:=zr E ρ a w hf hs
    obtain⟨g1,g2,g3⟩:=hput ρ' _ a (hf.mono hx'.len hx'.agree) hN hb
    unfold Oper.wp
    rw[hr]
    have hgo:At E N DS ρ h w fr1 h1 (a.put o.dst (v.γ E ρ')) w'/\za5 hS h1:=⟨⟨ρ',g1,g2,g3.trans hdf,hs',hx'⟩,hkeep⟩
    rcases hnx with rfl | ⟨rfl,rfl⟩
    ·exact hgo
    ·exact hgo
   ·obtain⟨fr1,hk,hput⟩:=zav hd hk
    refine one fr1 h fa0 hfa0 hk fun {DS} ρ w a QQ hbd hn hke hs hf hN hdf=>zez ho (hw ρ _ a hf) ?_
    obtain⟨g1,g2,g3⟩:=hput E ρ h.n.toNat a hf hN (by trivial)
    exact⟨⟨ρ,g1,g2,g3.trans hdf,hs,hs.refl E⟩,hke⟩
  ·have hk:zca g gg fr fa (fun fa=>zdg f ll g fr h fa (fun v h1 fa=>bc (zdb ids hS h1) (zb3 d v fr (fun fr=>j9 ids hS l2 g fr h1 fa k)) (err g 70))) (fun fa=>zb3 d (.tup []) fr (fun fr=>j9 ids hS l2 g fr h fa k))=0:=hk
   rcases zaL hg hfa hk with ⟨fa0,hfa0,hk,hw⟩ | ⟨fa0,hfa0,hk,hw⟩
   ·obtain⟨F,vl,v,h1,fa1,hk,hfa1,hr,hdo⟩:=zfe hop hcal hf0 hll hcall hfa0 hk
    obtain⟨hkp,hk⟩:=zK hk (yC _ _)
    have hkeep:=zdw hids hkp
    obtain⟨fr1,hk,hput⟩:=zav hd hk
    refine one fr1 h1 fa1 hfa1 hk fun {DS} ρ w a QQ hbd hn hke hs hf hN hdf=>zgr ho (hw ρ _ a hf) ?_
    obtain⟨hvb,hex⟩:=hr ρ _ a hf
    unfold Oper.wp
    rw[hex,Oper.upon_enter]
    refine(hdo ρ w hvb hs).mono ?_
    rintro e w' ⟨ρ',rfl,hs',hx',hb⟩
    obtain⟨g1,g2,g3⟩:=hput E ρ' _ a (hf.mono hx'.len hx'.agree) hN hb
    exact⟨⟨ρ',g1,g2,g3.trans hdf,hs',hx'⟩,hkeep⟩
   ·obtain⟨fr1,hk,hput⟩:=zav hd hk
    refine one fr1 h fa0 hfa0 hk fun {DS} ρ w a QQ hbd hn hke hs hf hN hdf=>zez ho (hw ρ _ a hf) ?_
    obtain⟨g1,g2,g3⟩:=hput E ρ h.n.toNat a hf hN (by trivial)
    exact⟨⟨ρ,g1,g2,g3.trans hdf,hs,hs.refl E⟩,hke⟩
theorem ztV {Y:Ty} (hY:TyOk P Y) (hm:P.follows .mixedOrders=true) {g:Ctx} (hcall:zk E P g.call) {id:Nat} {ops:Array Oper} {ks:List Nat} {ord:List (Bool × Nat)} {q:Nat} {tl:List Nat} (hB:floKB ops ord q tl=true)
  {l:List (Bool × OI)} (hl:zad Y N ops.toList (ord ++ (false,q)::tl.map (fun i=>(false,i)))=some l) {fr:Fr} {h:H} {fa:Fa} {k:K2} (hfa:FaOk E fa)
  (hk:cKops (ks.map zy) l g fr h fa k=0):Runs E P N (.region id ops true) fr h k:=by
 simp only[floKB,Bool.and_eq_true,decide_eq_true_eq,Bool.not_eq_true']at hB
 obtain⟨⟨⟨⟨⟨hsel,hlen⟩,hrest⟩,hqD⟩,hal⟩,hgo⟩:=hB
 have hqD:q∉ord.map (·.2) ++ tl:=by simpa [List.contains_iff_mem] using hqD
 have hk:zmA fr h (err g 66) (ks.map zy) (fun ids hS=>j9 ids hS l g fr h fa (fun fr h fa=>k .normal fr h fa))=0:=hk
 -- the operation that makes the thing
 cases hoq:ops[q]? with
 | none=>simp[zhG,hoq]at hal
 | some oq=>
 simp only[zhG,hoq,Bool.and_eq_true]at hal
 obtain⟨⟨hgd,hds⟩,hop⟩:=hal
 have hgd:oq.guard=none:=by simpa using hgd
 have hnq:nth ops.toList q=some oq:=by rw[jD,Array.getElem?_toList];exact hoq
 obtain⟨l1,l23,hl1,hl23,rfl⟩:=zjB ord hl
 obtain⟨oq',x,l3,hoq',hx,hl3,rfl⟩:=zaV hl23
 rw[hnq]at hoq'
 have hoq':oq=oq':=by simpa using hoq'
 subst hoq'
 obtain⟨d,gg,hd,hg,hxx⟩:=zao hx
 have hgg:gg=none:=by
  rw[hgd]at hg
  simp[zdI]at hg
  exact hg.symm
 subst hgg
 rcases hxx with ⟨ii,hi,rfl⟩ | ⟨cl,f0,f,ll,hop2,_⟩
 rotate_left
 ·rw[hop2]at hop;cases hop
 have fin:∀ (ob:Obj) (vl:Nat->Value) (oo:O) (vv:Ev.P->V),MakesQ P ops q oq ob vl->(∀ n,O.bd n oo)->(∀ ρ b hp,hp[b]? = some ob->oo.Is E ρ ⟨b,0⟩ hp)->(∀ (ρ:Rho) (i:Ev.P) b,ρ i=⟨b,0⟩->(vv i).γ E ρ=vl b) ->
   (∀ (i:Ev.P) n,i.toNat<n->(vv i).bd n)->(∀ fr h (kk:KV) e,e≠0->evI ii fr h kk e=0->kk (vv h.n) (h.add oo)=0)->Runs E P N (.region id ops true) fr h k:=by
  intro ob vl oo vv mq hobd hois hvv hvb hev
  cases hdq:oq.dst with
  | none=>simp[hdq]at hds
  | some dq=>
  obtain⟨ids,hS,hk,hSn,hids,hke,hSat⟩:=ztt (yC _ _) (ks.map zy) hk
  rw[zjf]at hk
  obtain⟨fr1,h1,fa1,hk1,hfa1,hr⟩:=zfE hY hcall hsel mq hdq (tl:=tl) hrest hqD hids ord l1 fr h fa hl1 hfa hk
  -- the thing,as the evaluator makes it
  have hk2:evI ii fr1 h1 (fun v h2=>bc (zdb ids hS h2) (zb2 d fa1 v fr1 (fun fr=>j9 ids hS l3 g fr h2 fa1 (fun fr h fa=>k .normal fr h fa))) (err g 68)) (err g (zbp ii))=0:=hk1
  have hk2:=hev _ _ _ _ (yC _ _) hk2
  obtain⟨hkp,hk2⟩:=zK hk2 (yC _ _)
  have hke3:=zdw hids hkp
  obtain⟨fr3,hk3,hput⟩:=zba hfa1 hd hk2
  obtain⟨fr4,h4,fa4,hk4,hfa4,hchain⟩:=zjg hY hcall (D:=ord.map (·.2) ++ tl) hids tl l3 fr3 (h1.add oo) fa1 hl3 hfa1 hk3
  refine⟨.normal,fr4,h4,fa4,hk4,hfa4,fun {DS} ρ w a QQ hs hf hN hd hQ=>?_⟩
  have hs1:Sat E ρ h { w with drawn:=w.drawn+1 }:=⟨hs.obj,hs.inj,hs.bd⟩
  have hx1:Ext ρ h w ρ h { w with drawn:=w.drawn+1 }:=zdA hs
  refine Go.wp_mono (Q:=fun e a' w'=>e=.normal/\At E N DS ρ h w fr4 h4 a' w') (EvQ.wp_region_T (S:=Sat E ρ hS) (D:=ord.map (·.2) ++ tl) hm ?_) (fun e a' w' ⟨he,hA⟩=>by rw[he];exact hQ a' w' hA)
  have key:=hr none (Array.replicate ops.size false) hgo (EvQ.Closed.none _) w.heap.size ρ ρ { w with drawn:=w.drawn+1 } a (fun e a' w'=>e=.normal/\At E N DS ρ h w fr4 h4 a' w') (Nat.le_refl _) (by rw[hSn];exact Nat.le_refl _) hke (hSat E ρ _ hs1) (fun _ _=>rfl) hs1 hf hN hd trivial (fun c a w hh=>(by cases hh.1)) (by
   rintro lq' a2 w2 L2 ⟨ρ2,f2,n2,d2,s2,x2,c2,h02,hn2,hke2,hs02,ha2⟩ hE
   simp only[endF,Bool.and_eq_true,decide_eq_true_eq,Bool.not_eq_true']at hE
   obtain⟨⟨hnd,hrq⟩,hcE⟩:=hE
   have zaf:∀ b w3,Sat E ρ2 h1 w3->Sat E ρ hS w3->Ext ρ2 h1 w2 ρ2 h1 w3->zge ob w.heap.size b ρ2 h1 w3->EvQ.wpAnyT P ops (fun e a' w'=>e=.normal/\At E N DS ρ h w fr4 h4 a' w') (Sat E ρ hS) (ord.map (·.2) ++ tl) tl.length (L2.setIfInBounds q true) (zdK vl oq.dst (some b) a2) w3:=by
    intro b w3 s3' hs03 x3' c3
    obtain⟨cc1,cc2,cc3⟩:=c3
    have s3:=zlN s3' oo (hobd _) ⟨b,0⟩ cc3 (hois _ _ _ cc1)
    have x3:=zmL ((hx1.trans x2).trans x3') (fun p o hp=>(s3'.bd p o hp).1) oo ⟨b,0⟩ cc2
    have hpt:V.γ E (zbi ρ2 h1.n ⟨b,0⟩) (vv h1.n)=vl b:=hvv _ _ _ (jJ ..)
    obtain⟨g1,g2,g3⟩:=hput (zbi ρ2 h1.n ⟨b,0⟩) (h1.add oo).n.toNat a2 (f2.mono (by simp[H.add]) (fun i hi=>zcd ρ2 _ hi)) n2 (hvb _ _ (by simp[H.add]))
    rw[hpt]at g1 g2 g3
    exact hchain (L2.setIfInBounds q true) hcE ρ (zbi ρ2 h1.n ⟨b,0⟩) w3 _ _ (by simp[H.add];omega) hke3 hs03 (fun p hp=>by rw[zcd ρ2 _ (by omega)];exact ha2 p hp) s3 g1 g2 (g3.trans d2) (fun a' w' hA=>⟨rfl,hA.trans x3⟩)
   cases lq' with
   | some b=>exact zaf b w2 s2 hs02 (s2.refl E) c2
   | none=>exact EvQ.T_q hnd hrq (mq.op ⟨zaB hs02 _,zaf _ _ (zaB s2 _) (zaB hs02 _) (zer s2 _) (zf9 s2 h02)⟩))
  have e:zdc none (tl.length+ord.length)=ops.size:=hlen
  rw[e]at key
  exact key
 cases hopq:oq.op with
 | makeMap t r=>
  cases r with
  | some r=>simp[hopq]at hop
  | none=>
  rw[hopq]at hi
  have hi:IOp.mop .mk=ii:=by simpa [cOp] using hi
  subst hi
  refine fin (.map #[] 0) (fun b=>.map (some b)) (.map []) (fun i=>.mp i) ⟨hoq,hgd,fun a w=>by simp[execOp,hopq,Instr.makeMap]⟩ (fun n=>by simp[O.bd]) (fun ρ b hp h0=>⟨#[],h0,by simp[zmq]⟩) (fun ρ i b e=>by simp[V.γ,e]) (fun i n h=>by simpa [V.bd] using h) ?_
  intro fr h kk e he hk
  have hk:zcs h (.map []) (fun i h=>kk (.mp i) h)=0:=hk
  rw[zaI]at hk
  exact hk
 | alloc ty=>
  rw[hopq]at hi
  simp only[cOp]at hi
  cases hz:(Y.ti ty).zero with
  | none=>rw[hz]at hi;cases hi
  | some z=>
   rw[hz]at hi
   have hi:IOp.new ty z=ii:=by simpa using hi
   subst hi
   obtain⟨zs,hzs,hzb,hz1,zr⟩:∃ zs:Array Value,(∀ ρ,(γL E ρ z).toArray=zs)/\bdL 0 z/\zW V.one z=true/\∀ (a:Act) (w:World),(execOp a.eval oq).run P w=.ok (.value (.pointer (some ⟨w.heap.size,0,none⟩))) (w.alloc (.cells zs ty)):=by
    refine⟨(γL E (fun _=>⟨0,0⟩) z).toArray,fun ρ=>?_,?_,?_,fun a w=>?_⟩
    ·obtain⟨x,hx,he,hb,_⟩:=zdP (E:=E) (w:=default) hY.ti hz ρ
     rw[γL_agree E (n:=0) (fun i hi=>absurd hi (Nat.not_lt_zero _)) z hb]
    ·obtain⟨x,hx,he,hb,_⟩:=zdP (E:=E) (w:=default) hY.ti hz (fun _=>⟨0,0⟩)
     exact hb
    ·obtain⟨x,hx,he,hb,_,_,h1⟩:=zdP (E:=E) (w:=default) hY.ti hz (fun _=>⟨0,0⟩)
     exact h1
    ·obtain⟨x,hx1,he,hb,_⟩:=zdP (E:=E) (w:=w) hY.ti hz (fun _=>⟨0,0⟩)
     rw[<- he]
     simp[execOp,hopq,Instr.alloc,hx1,newVar,newRow,zaw]
   refine fin (.cells zs ty) (fun b=>.pointer (some ⟨b,0,none⟩)) (.cells ty z) (fun i=>.ptr i 0) ⟨hoq,hgd,zr⟩ (fun n=>j3 (Nat.zero_le _) z hzb) (fun ρ b hp h0=>by show hp[b]? = _;rw[hzs];exact h0) (fun ρ i b e=>by simp[V.γ,e]) (fun i n h=>by simpa [V.bd] using h) ?_
   intro fr h kk e he hk
   have hk2:eNew ty z fr h kk e=0:=hk
   unfold eNew zkz at hk2
   rw[hz1]at hk2
   have hk2:zcs h (.cells ty z) (fun n h2=>kk (.ptr n 0) h2)=0:=hk2
   rw[zaI]at hk2
   exact hk2
 | _=>simp[hopq]at hop
end Go.Ev
end
set_option linter.unusedSimpArgs false
set_option linter.unusedVariables false
noncomputable section
namespace Go.Ev
open Go
variable {E:Env} {P:Program} {N:Nat}
def FrAt (E:Env) (ρ:Rho) (n:Nat) (FR:Fr) (tmps:Array Value) (sl:List Nat):Prop:=∀ t∈sl,∀ v,FR.get (zy t)=some v->tmps[t]? = some (v.γ E ρ)/\v.bd n
structure MapSt (ops:Array Oper) (qs cs:List (Nat × List Nat)) (q dq:Nat) (ins:List (Nat × List Nat)) (ty:TypeId) (n0:Nat):Prop where
 le:n0<=ops.size
 q0:q<n0
 nd:(qs.map (·.1) ++ (cs.map (·.1) ++ q::ins.map (·.1))).Nodup
 cov:∀ i,i<n0->i∈qs.map (·.1) ++ (cs.map (·.1) ++ q::ins.map (·.1))
 low:∀ i,i<n0->∀ j∈EvQ.edgesOf ops i,j<i
 lt:∀ x∈qs ++ (cs ++ ins),x.1<n0
 sl:∀ x∈qs ++ (cs ++ ins),∀ t∈x.2,t≠dq/\∀ j o,ops[j]? = some o->o.dst=some t->j∈EvQ.edgesOf ops x.1
 ch:∀ p a b r,cs=p ++ a::b::r->a.1∈EvQ.edgesOf ops b.1
 insq:∀ x∈ins,q∈EvQ.edgesOf ops x.1
 dst:∀ i j o o' t,i<n0->j<n0->ops[i]? = some o->ops[j]? = some o'->o.dst=some t->o'.dst=some t->i=j
 tl:∀ i,n0<=i->i<ops.size->∀ j,j<n0->j∈EvQ.edgesOf ops i
def kvA (kvl:List (V × V)) (n:Nat):V × V:=kvl.getD n (.nil,.nil)
def DstOk (E:Env) (N:Nat) (FR:Fr) (o:Oper) (v:V):Prop:=∀ t,o.dst=some t->t<N/\∃ u,FR.get (zy t)=some u/\∀ ρ n,v.bd n->u.γ E ρ=v.γ E ρ/\u.bd n
inductive Ch (E:Env) (P:Program) (N:Nat) (ops:Array Oper) (FR:Fr) (hS:H):List (Nat × List Nat)->H->H->Prop where
 | nil (h:H):Ch E P N ops FR hS [] h h
 | cons {x:Nat × List Nat} {r:List (Nat × List Nat)} {h h1 hN:H} {o:Oper} {v:V}:ops[x.1]? = some o->o.guard=none->za5 hS h1->DstOk E N FR o v ->
   (∀ ρ (a:Act) w QQ,FrAt E ρ h.n.toNat FR a.tmps x.2->Sat E ρ h w->o.wp P a w (fun a1 w1=>∃ ρ1,a1=a.put o.dst (v.γ E ρ1)/\Sat E ρ1 h1 w1/\Ext ρ h w ρ1 h1 w1/\v.bd h1.n.toNat) QQ) ->
   Ch E P N ops FR hS r h1 hN->Ch E P N ops FR hS (x::r) h hN
def MapInv (E:Env) (q dq:Nat) (ins:List (Nat × List Nat)) (kvl:List (V × V)) (w0:World) (L:Array Bool) (lq:Option (Nat × List Nat)) (ρ:Rho) (h:H) (w:World) (a:Act):Prop:=match lq with
 | none=>L.getD q true=false/\∀ x∈ins,L.getD x.1 true=false
 | some (b,ll)=>L.getD q false=true/\a.tmps[dq]? = some (.map (some b))/\w0.heap.size<=b/\(∀ p o,h.t.get p=some o->o.live=true->(ρ p).b≠b)/\ll.Nodup/\(∀ n∈ll,n<ins.length) /\
  (∀ n x,ins[n]? = some x->(n∈ll ↔ L.getD x.1 false=true))/\(∀ n∈ll,(kvA kvl n).1.bd h.n.toNat/\(kvA kvl n).2.bd h.n.toNat) /\
  ∃ es:Array MapEntry,w.heap[b]? = some (.map es es.size)/\es.toList.map (fun e=>(e.key,e.val))=(ll.map (kvA kvl)).map (fun p=>(p.1.γ E ρ,p.2.γ E ρ))/\∀ (i:Nat) (e:MapEntry),es[i]? = some e->e.born=i
structure MInv (E:Env) (N:Nat) (ops:Array Oper) (cs:List (Nat × List Nat)) (q dq:Nat) (ins:List (Nat × List Nat)) (n0:Nat) (FR:Fr) (hS:H) (kvl:List (V × V)) (DS:List Deferred) (ρ0:Rho) (h0:H) (w0:World)
  (L:Array Bool) (cr:List (Nat × List Nat)) (lq:Option (Nat × List Nat)) (ρ:Rho) (h:H) (w:World) (a:Act):Prop where
 size:L.size=ops.size
 tail:∀ i,n0<=i->i<ops.size->L.getD i true=false
 cs:∃ p,cs=p ++ cr/\(∀ x∈p,L.getD x.1 false=true)/\∀ x∈cr,L.getD x.1 true=false
 sat:Sat E ρ h w
 ext:Ext ρ0 h0 w0 ρ h w
 keep:za5 hS h
 hn:hS.n.toNat<=h.n.toNat
 fr:∀ t v,FR.get (zy t)=some v->t≠dq->(∀ j o,j<n0->ops[j]? = some o->o.dst=some t->L.getD j false=true)->a.tmps[t]? = some (v.γ E ρ)/\v.bd h.n.toNat
 sz:N<=a.tmps.size
 df:a.defers=DS
 mp:MapInv E q dq ins kvl w0 L lq ρ h w a
theorem getD_b {L:Array Bool} {i:Nat} (h:i<L.size):L.getD i true=L.getD i false:=by simp[h]
theorem put_get {a:Act} {d:Option Tmp} {v:Value} {t:Nat} (ht:d≠some t):(a.put d v).tmps[t]? = a.tmps[t]?:=by
 cases d with
 | none=>rfl
 | some d=>
  show (a.tmps.setIfInBounds d v)[t]? = _
  rw[Array.getElem?_setIfInBounds,if_neg (fun e=>ht (by rw[e]))]
theorem zkp {a:Act} {v:Value} {t:Nat} (ht:t<a.tmps.size):(a.put (some t) v).tmps[t]? = some v:=by
 show (a.tmps.setIfInBounds t v)[t]? = _
 rw[Array.getElem?_setIfInBounds,if_pos rfl,if_pos ht]
theorem zsu {a:Act} {d:Option Tmp} {v:Value}:(a.put d v).tmps.size=a.tmps.size:=by cases d <;> simp[Act.put]
theorem put_df {a:Act} {d:Option Tmp} {v:Value}:(a.put d v).defers=a.defers:=by cases d <;> rfl
section
variable {ops:Array Oper} {qs cs:List (Nat × List Nat)} {q dq:Nat} {ins:List (Nat × List Nat)} {ty:TypeId} {n0:Nat} {FR:Fr} {hS:H} {kvl:List (V × V)} {DS:List Deferred} {ρ0:Rho} {h0:H} {w0:World}
 {L:Array Bool} {cr:List (Nat × List Nat)} {lq:Option (Nat × List Nat)} {ρ:Rho} {h:H} {w:World} {a:Act}
theorem MInv.slots (st:MapSt ops qs cs q dq ins ty n0) (iv:MInv E N ops cs q dq ins n0 FR hS kvl DS ρ0 h0 w0 L cr lq ρ h w a) {x:Nat × List Nat} (hx:x∈qs ++ (cs ++ ins)) (hr:x.1∈Region.ready .any ops L):FrAt E ρ h.n.toNat FR a.tmps x.2:=by
 intro t ht v hv
 obtain⟨h1,h2⟩:=st.sl x hx t ht
 exact iv.fr t v hv h1 fun j o hj ho hd=>EvQ.ready_edges hr j (h2 j o ho hd)
theorem MInv.make (st:MapSt ops qs cs q dq ins ty n0) (iv:MInv E N ops cs q dq ins n0 FR hS kvl DS ρ0 h0 w0 L cr none ρ h w a) (hqc:∀ x∈cs,x.1≠q) (hqi:∀ x∈ins,x.1≠q) (hdq:dq<a.tmps.size) {oq:Oper} (hoq:ops[q]? = some oq) (hoqd:oq.dst=some dq) :
  MInv E N ops cs q dq ins n0 FR hS kvl DS ρ0 h0 w0 (L.setIfInBounds q true) cr (some (w.heap.size,[])) ρ h (w.alloc (.map #[] 0)) (a.put (some dq) (.map (some w.heap.size))):=by
 obtain⟨m1,m2⟩:=iv.mp
 have hqn:q<L.size:=by rw[iv.size];exact Nat.lt_of_lt_of_le st.q0 st.le
 obtain⟨p,c1,c2,c3⟩:=iv.cs
 have hne:∀ t,t≠dq->(some dq:Option Tmp)≠some t:=fun t h e=>h (by cases e;rfl)
 refine⟨by simpa using iv.size,fun j g1 g2=>?_,⟨p,c1,fun x hx=>?_,fun x hx=>?_⟩,zaB iv.sat _,iv.ext.trans (zer iv.sat _),iv.keep,iv.hn,fun t u hu hne' hall=>?_,by rw[zsu];exact iv.sz,by rw[put_df];exact iv.df,?_⟩
 ·have:=st.q0
  rw[getD_set_ne true (show q≠j by omega)];exact iv.tail j g1 g2
 ·rw[getD_set_ne false (fun e=>hqc x (by rw[c1];exact List.mem_append_left _ hx) e.symm)];exact c2 x hx
 ·rw[getD_set_ne true (fun e=>hqc x (by rw[c1];exact List.mem_append_right _ hx) e.symm)];exact c3 x hx
 ·rw[put_get (hne t hne')]
  refine iv.fr t u hu hne' fun j o hj ho hd=>?_
  have:=hall j o hj ho hd
  by_cases e:q=j
  ·subst e
   rw[hoq]at ho;cases ho
   rw[hoqd]at hd
   exact absurd hd (hne t hne')
  ·rwa [getD_set_ne false e]at this
 ·refine⟨?_,zkp hdq,iv.ext.size,fun p o hp hl=>?_,List.nodup_nil,fun n hn=>(by cases hn),fun n x hx=>?_,fun n hn=>(by cases hn),#[],?_,rfl,fun i e he=>(by simp at he)⟩
  ·have:=getD_b (L:=L.setIfInBounds q true) (i:=q) (by simpa using hqn)
   rw[<- this]
   simp[Array.getD_eq_getD_getElem?,Array.getElem?_setIfInBounds,hqn]
  ·have:=iv.sat.lt E hp hl
   omega
  ·have hx':=List.mem_of_getElem? hx
   have hxn:=st.lt x (by simp[hx'])
   rw[getD_set_ne false (fun e=>hqi x hx' e.symm)]
   have:=m2 x hx'
   rw[getD_b (by rw[iv.size];exact Nat.lt_of_lt_of_le hxn st.le)]at this
   rw[this]
   simp
  ·show (w.alloc (.map #[] 0)).heap[w.heap.size]? = _
   rw[zR,Array.getElem?_push,if_pos rfl]
   rfl
end
end Go.Ev
end
set_option linter.unusedSimpArgs false
set_option linter.unusedVariables false
noncomputable section
namespace Go.Ev
open Go
variable {E:Env} {P:Program} {N:Nat}
end Go.Ev
end
set_option linter.unusedSimpArgs false
set_option linter.unusedVariables false
noncomputable section
namespace Go.Ev
open Go
variable {E:Env} {P:Program} {N:Nat}
theorem zat {g:Ctx} {fr:Fr} {h:H} {fa:Fa} {k:K2} (hk:zce .bad g fr h fa k=0):False:=yC _ _ hk
theorem j2 {Y:Ty} (hY:TyOk P Y) (hm:P.follows .mixedOrders=true) {dr:Nat->Option Dr} {g:Ctx} (hcall:zk E P g.call):∀ (c:Code) (fr:Fr) (h:H) (fa:Fa) (k:K2),zam dr c=true->FaOk E fa ->
  zce (zax Y N dr c) g fr h fa k=0->Runs E P N c fr h k
 | .skip,fr,h,fa,k,hB,hfa,hk=>⟨.normal,fr,h,fa,hk,hfa,fun {DS} ρ w a QQ hs hf hN hd hQ=>wp_skip (hQ _ _ ⟨ρ,hf,hN,hd,hs,hs.refl E⟩)⟩
 | .ret,fr,h,fa,k,hB,hfa,hk=>⟨.ret,fr,h,fa,hk,hfa,fun {DS} ρ w a QQ hs hf hN hd hQ=>wp_ret (hQ _ _ ⟨ρ,hf,hN,hd,hs,hs.refl E⟩)⟩
 | .exit i,fr,h,fa,k,hB,hfa,hk=>⟨.exit i,fr,h,fa,hk,hfa,fun {DS} ρ w a QQ hs hf hN hd hQ=>wp_exit (hQ _ _ ⟨ρ,hf,hN,hd,hs,hs.refl E⟩)⟩
 | .label i,fr,h,fa,k,hB,hfa,hk=>⟨.normal,fr,h,fa,hk,hfa,fun {DS} ρ w a QQ hs hf hN hd hQ=>wp_label (hQ _ _ ⟨ρ,hf,hN,hd,hs,hs.refl E⟩)⟩
 | .seq x y,fr,h,fa,k,hB,hfa,hk=>by
  simp only[zam,Bool.and_eq_true]at hB
  have hk:zce (zax Y N dr x) g fr h fa (fun e fr h fa=>zbU e (zce (zax Y N dr y) g fr h fa k) (k .ret fr h fa) (fun i=>k (.exit i) fr h fa))=0:=hk
  obtain⟨ae,fr1,h1,fa1,hk1,hfa1,r1⟩:=j2 hY hm hcall x fr h fa _ hB.1 hfa hk
  cases ae with
  | normal=>
   obtain⟨ae,fr2,h2,fa2,hk2,hfa2,r2⟩:=j2 hY hm hcall y fr1 h1 fa1 k hB.2 hfa1 hk1
   refine⟨ae,fr2,h2,fa2,hk2,hfa2,fun {DS} ρ w a QQ hs hf hN hd hQ=>wp_seq (r1 ρ w a _ hs hf hN hd ?_)⟩
   rintro a1 w1 ⟨ρ1,f1,n1,d1,s1,x1⟩
   exact r2 ρ1 w1 a1 QQ s1 f1 n1 d1 fun a' w' hA=>hQ a' w' (hA.trans x1)
  | ret=>exact⟨.ret,fr1,h1,fa1,hk1,hfa1,fun {DS} ρ w a QQ hs hf hN hd hQ=>wp_seq (r1 ρ w a _ hs hf hN hd hQ)⟩
  | exit i=>exact⟨.exit i,fr1,h1,fa1,hk1,hfa1,fun {DS} ρ w a QQ hs hf hN hd hQ=>wp_seq (r1 ρ w a _ hs hf hN hd hQ)⟩
 | .cond o x y,fr,h,fa,k,hB,hfa,hk=>by
  simp only[zam,Bool.and_eq_true]at hB
  cases o with
  | tmp t=>
   have hk:way fa (fr.get (zy t)) (fun b fa=>bc b (zce (zax Y N dr x) g fr h fa k) (zce (zax Y N dr y) g fr h fa k)) (err g 44)=0:=hk
   obtain⟨v,b,fa',hv,hb,hfa',hk⟩:=znt hk (yC _ _) hfa (fun _=>⟨0,0⟩)
   have hev:∀ ρ n (a:Act),yr E ρ n fr a.tmps->a.eval (.tmp t)=.bool b:=by
    intro ρ n a hf
    have h1:=(hf t v hv).1
    have h2:v.γ E ρ=.bool b:=by cases v <;> simp[V.γ]at hb ⊢ <;> exact hb
    simp[Act.eval,h1,h2]
   cases b with
   | true=>
    obtain⟨ae,fr1,h1,fa1,hk1,hfa1,r1⟩:=j2 hY hm hcall x fr h fa' k hB.1 hfa' hk
    exact⟨ae,fr1,h1,fa1,hk1,hfa1,fun {DS} ρ w a QQ hs hf hN hd hQ=>wp_cond_true (hev ρ _ a hf) (r1 ρ w a QQ hs hf hN hd hQ)⟩
   | false=>
    obtain⟨ae,fr1,h1,fa1,hk1,hfa1,r1⟩:=j2 hY hm hcall y fr h fa' k hB.2 hfa' hk
    exact⟨ae,fr1,h1,fa1,hk1,hfa1,fun {DS} ρ w a QQ hs hf hN hd hQ=>wp_cond_false (hev ρ _ a hf) (r1 ρ w a QQ hs hf hN hd hQ)⟩
  | _=>exact(zat hk).elim
 | .block i x,fr,h,fa,k,hB,hfa,hk=>by
  simp only[zam]at hB
  have hk:zce (zax Y N dr x) g fr h fa (fun e fr h fa=>zbU e (k .normal fr h fa) (k .ret fr h fa) (fun j=>bc (Nat.beq j i) (k .normal fr h fa) (k (.exit j) fr h fa)))=0:=hk
  obtain⟨ae,fr1,h1,fa1,hk1,hfa1,r1⟩:=j2 hY hm hcall x fr h fa _ hB hfa hk
  cases ae with
  | normal=>exact⟨.normal,fr1,h1,fa1,hk1,hfa1,fun {DS} ρ w a QQ hs hf hN hd hQ=>wp_block (r1 ρ w a _ hs hf hN hd hQ)⟩
  | ret=>exact⟨.ret,fr1,h1,fa1,hk1,hfa1,fun {DS} ρ w a QQ hs hf hN hd hQ=>wp_block (r1 ρ w a _ hs hf hN hd hQ)⟩
  | exit j=>
   have hk2:bc (Nat.beq j i) (k .normal fr1 h1 fa1) (k (.exit j) fr1 h1 fa1)=0:=hk1
   clear hk1
   cases hj:Nat.beq j i with
   | true=>
    rw[hj]at hk2
    have hj:j=i:=by simpa using hj
    subst hj
    refine⟨.normal,fr1,h1,fa1,hk2,hfa1,fun {DS} ρ w a QQ hs hf hN hd hQ=>wp_block (r1 ρ w a _ hs hf hN hd fun a' w' hA=>?_)⟩
    show Exit.inBlock j _ (.exit j) a' w'
    simp only[Exit.inBlock,if_true]
    exact hQ a' w' hA
   | false=>
    rw[hj]at hk2
    have hj:¬ j=i:=by
     intro e;subst e;simp at hj
    refine⟨.exit j,fr1,h1,fa1,hk2,hfa1,fun {DS} ρ w a QQ hs hf hN hd hQ=>wp_block (r1 ρ w a _ hs hf hN hd fun a' w' hA=>?_)⟩
    show Exit.inBlock i _ (.exit j) a' w'
    simp only[Exit.inBlock,hj,if_false]
    exact hQ a' w' hA
 | .loop x,fr,h,fa,k,hB,hfa,hk=>by
  simp only[zam]at hB
  have key:∀ n fr h fa,FaOk E fa->loopN (zce (zax Y N dr x)) n g fr h fa k=0->∃ ae fr' h' fa',k ae fr' h' fa'=0/\FaOk E fa'/\∀ {DS:List Deferred} ρ w a QQ,Sat E ρ h w->yr E ρ h.n.toNat fr (a:Act).tmps->N<=a.tmps.size->a.defers=DS ->
    (∀ a' w',At E N DS ρ h w fr' h' a' w'->QQ (AE.exit' ae) a' w')->Code.rounds P x QQ n a w:=by
   intro n
   induction n with
   | zero=>intro fr h fa hfa hk;exact absurd hk (yC _ _)
   | succ n ih=>
    intro fr h fa hfa hk
    have hk:zce (zax Y N dr x) g fr h fa (fun e fr h fa=>zbU e (loopN (zce (zax Y N dr x)) n g fr h fa k) (k .ret fr h fa) (fun i=>k (.exit i) fr h fa))=0:=hk
    obtain⟨ae,fr1,h1,fa1,hk1,hfa1,r1⟩:=j2 hY hm hcall x fr h fa _ hB hfa hk
    cases ae with
    | normal=>
     obtain⟨ae,fr2,h2,fa2,hk2,hfa2,r2⟩:=ih fr1 h1 fa1 hfa1 hk1
     refine⟨ae,fr2,h2,fa2,hk2,hfa2,fun {DS} ρ w a QQ hs hf hN hd hQ=>?_⟩
     rw[rounds_succ]
     refine r1 ρ w a _ hs hf hN hd ?_
     rintro a1 w1 ⟨ρ1,f1,n1,d1,s1,x1⟩
     exact r2 ρ1 w1 a1 QQ s1 f1 n1 d1 fun a' w' hA=>hQ a' w' (hA.trans x1)
    | ret=>exact⟨.ret,fr1,h1,fa1,hk1,hfa1,fun {DS} ρ w a QQ hs hf hN hd hQ=>(by rw[rounds_succ];exact r1 ρ w a _ hs hf hN hd hQ)⟩
    | exit i=>exact⟨.exit i,fr1,h1,fa1,hk1,hfa1,fun {DS} ρ w a QQ hs hf hN hd hQ=>(by rw[rounds_succ];exact r1 ρ w a _ hs hf hN hd hQ)⟩
  obtain⟨ae,fr2,h2,fa2,hk2,hfa2,r2⟩:=key g.fuel fr h fa hfa hk
  exact⟨ae,fr2,h2,fa2,hk2,hfa2,fun {DS} ρ w a QQ hs hf hN hd hQ=>wp_loop_rounds _ (r2 ρ w a QQ hs hf hN hd hQ)⟩
 | .scope x,fr,h,fa,k,hB,hfa,hk=>by
  simp only[zam]at hB
  obtain⟨ae,fr1,h1,fa1,hk1,hfa1,r1⟩:=j2 hY hm hcall x fr h fa k hB hfa hk
  exact⟨ae,fr1,h1,fa1,hk1,hfa1,fun {DS} ρ w a QQ hs hf hN hd hQ=>wp_scope_straight (r1 ρ w a _ hs hf hN hd (by cases ae <;> exact hQ))⟩
 | .region id ops false,fr,h,fa,k,hB,hfa,hk=>by
  simp only[zax]at hk
  split at hk
  ·rename_i l hl
   obtain⟨fr2,h2',fa2,hk2,hfa2,ho⟩:=zhv hY hcall _ _ fr h fa hl hfa (show opsT l g fr h fa (fun fr h fa=>k .normal fr h fa)=0 from hk)
   exact⟨.normal,fr2,h2',fa2,hk2,hfa2,fun {DS} ρ w a QQ hs hf hN hd hQ=>wp_region_list (ho ρ w a QQ hs hf hN hd hQ)⟩
  ·exact(zat hk).elim
 | .region id ops true,fr,h,fa,k,hB,hfa,hk=>by
  simp only[zam]at hB
  simp only[zax]at hk
  split at hk
  ·rename_i bs ord hdr
   rw[hdr]at hB
   split at hk
   ·rename_i l hl
    exact ztH hY hm hcall hB hl hfa hk
   ·exact(zat hk).elim
  ·rename_i bs ord tl hdr
   rw[hdr]at hB
   split at hk
   ·rename_i l t hl ht
    exact Bool.noConfusion (show false=true from hB)
   ·exact(zat hk).elim
  ·rename_i ks ord hdr
   rw[hdr]at hB
   split at hk
   ·rename_i l hl
    exact Bool.noConfusion (show false=true from hB)
   ·exact(zat hk).elim
  ·rename_i ks ord tl hdr
   rw[hdr]at hB
   split at hk
   ·rename_i l t hl ht
    exact Bool.noConfusion (show false=true from hB)
   ·exact(zat hk).elim
  ·rename_i ks ord q tl hdr
   rw[hdr]at hB
   split at hk
   ·rename_i l hl
    exact ztV hY hm hcall hB hl hfa hk
   ·exact(zat hk).elim
  ·rename_i ks ord qs cs q ins n0 hdr
   rw[hdr]at hB
   split at hk
   ·rename_i pre qs' cs' dq ins' t' h1 h2 h3 h4 h5 h6
    split at hk
    ·rename_i hdN
     exact Bool.noConfusion (show false=true from hB)
    ·exact(zat hk).elim
   ·exact(zat hk).elim
  ·rename_i bs ord ch q tl hdr
   rw[hdr]at hB
   split at hk
   ·rename_i l c aq t hl hc haq ht
    exact Bool.noConfusion (show false=true from hB)
   ·exact(zat hk).elim
  ·rename_i n bs ord hdr
   rw[hdr]at hB
   split at hk
   ·rename_i hd l hhd hl
    exact mix_run hY hm hcall hB hhd hl hfa hk
   ·exact(zat hk).elim
  ·rename_i d tl hdr
   rw[hdr]at hB
   split at hk
   ·rename_i hd hhd
    split at hk
    ·rename_i o ho
     rw[jD,Array.getElem?_toList]at ho
     split at hk
     ·rename_i i r hi hr
      exact two_run hY hm hcall ho hB hhd hi hr hfa hk
     ·exact(zat hk).elim
    ·rename_i hne
     split at hk
     ·rename_i t ht
      rw[zsE]at ht
      refine zrz hY hm hcall hB hhd ht (fun e=>?_) hfa hk
      subst e
      rcases Nat.lt_or_ge d ops.size with h1 | h1
      ·exact(hne ops[d] rfl (by rw[jD];simp[h1])).elim
      ·exact h1
     ·exact(zat hk).elim
   ·exact(zat hk).elim
  ·exact(zat hk).elim
 | .rangeFunc f ps x y,fr,h,fa,k,hB,hfa,hk=>(zat hk).elim
 | .goto l,fr,h,fa,k,hB,hfa,hk=>(zat hk).elim
 | .refuse s,fr,h,fa,k,hB,hfa,hk=>(zat hk).elim
end Go.Ev
end
set_option linter.unusedSimpArgs false
set_option linter.unusedVariables false
noncomputable section
namespace Go.Ev
open Go
variable {E:Env} {P:Program} {N:Nat}
def resS (tmps:Array Value):ResultVar->Sem Value
 | .tmp t=>pure (tmps.getD t undef)
 | .cell a t=>do loadVar t (<- asAddr (tmps.getD a undef))
def ROk (P:Program) (r:ResultVar) (x:IR):Prop:=∀ (E:Env) (ρ:Rho) (fr:Fr) (h:H) (w:World) (tmps:Array Value) (v:V),Sat E ρ h w->yr E ρ h.n.toNat fr tmps->resV fr h x=some v->(resS tmps r).run P w=.ok (v.γ E ρ) w/\v.bd h.n.toNat
theorem zeW {α β:Type} {x:Option α} {f:α->Option β} {v:β} (h:oc x f none=some v):∃ a,x=some a/\f a=some v:=by
 cases x with
 | none=>cases h
 | some a=>exact⟨a,rfl,h⟩
theorem zgT {β:Type} {x:Option V} {f:Ev.P->Nat->Option β} {v:β} (h:za6 x f none=some v):∃ id off,x=some (.ptr id off)/\f id off=some v:=by
 unfold za6 at h
 split at h
 ·exact⟨_,_,rfl,h⟩
 ·cases h
theorem zou {ρ:Rho} {h:H} {w:World} (hs:Sat E ρ h w) {id:Ev.P} {o:O} (ho:h.t.get id=some o) {off:Nat} {v:V} (hc:zbJ o off=some v) :
  ∃ cs t,w.heap[(ρ id).b]? = some (.cells cs t (0,0))/\cs[off]? = some (v.γ E ρ)/\v.bd h.n.toNat:=by
 obtain⟨cs,tt,hb,hcell⟩:=O.block (hs.obj id o ho) (hs.bd id o ho).2 (zc0 hc)
 obtain⟨h1,h2⟩:=hcell off v hc
 exact⟨cs,tt,hb,h1,h2⟩
theorem zfH:∀ (l:List V) (i:Nat) (fr:Fr) (k:Fr->Nat),jE zpk zpl l i fr k=0->∃ fr',k fr'=0/\∀ q v,fr'.get q=some v->fr.get q=some v\/∃ j,q=zy (i+j)/\l[j]? = some v
 | [],i,fr,k,hk=>⟨fr,hk,fun q v h=>.inl h⟩
 | x::r,i,fr,k,hk=>by
  have hk:zeM (zy i) fr x (fun fr=>jE zpk zpl r (Nat.succ i) fr k)=0:=hk
  obtain⟨fr1,hk,g1,g2⟩:=zeL hk
  obtain⟨fr',h1,h2⟩:=zfH r (i+1) fr1 k hk
  refine⟨fr',h1,fun q v hv=>?_⟩
  rcases h2 q v hv with h3 | ⟨j,h3,h4⟩
  ·by_cases hq:q=zy i
   ·rw[hq,g1]at h3
    exact .inr ⟨0,hq,by simpa using h3⟩
   ·rw[g2 q hq]at h3
    exact .inl h3
  ·exact .inr ⟨j+1,by rw[h3];congr 1;omega,by simpa using h4⟩
theorem zfG {l:List V} {k:Fr->Nat} (hk:zfI l k=0):∃ fr,k fr=0/\∀ t v,fr.get (zy t)=some v->l[t]? = some v:=by
 obtain⟨fr,h1,h2⟩:=zfH l 0 .e k hk
 refine⟨fr,h1,fun t v hv=>?_⟩
 rcases h2 _ v hv with h3 | ⟨j,h3,h4⟩
 ·rw[Fr.get_e]at h3;simp at h3
 ·have:=ze2 h3
  have:t=j:=by omega
  subst this;exact h4
theorem zsm {Y:Ty} (hY:TyOk P Y) {r:ResultVar} {rs:List ResultVar} {l:List IR} (h:zgk Y (r::rs)=some l):∃ x l',l=x::l'/\zgk Y rs=some l'/\ROk P r x:=by
 simp only[zgk]at h
 split at h
 rotate_left
 ·simp at h
 rename_i l' hl'
 split at h
 ·rename_i t
  simp at h;subst h
  refine⟨_,_,rfl,hl',fun E ρ fr h w tmps v hs hf hv=>?_⟩
  obtain⟨h1,h2⟩:=hf t v hv
  exact⟨by simp[resS,h1],h2⟩
 ·rename_i a t
  have one:(∃ d,P.underlying t=some d/\zb7 d=false)->ROk P (.cell a t) (.c1 (zy a)):=by
   rintro ⟨d,hu,hd⟩ E ρ fr h w tmps v hs hf hv
   obtain⟨id,off,hp,hv⟩:=zgT (show za6 (fr.get (zy a)) (fun id off=>oc (yR h id) (fun o=>zbJ o off) none) none=some v from hv)
   obtain⟨o,ho,hv⟩:=zeW hv
   rw[yk]at ho
   obtain⟨h1,h2⟩:=hf a _ hp
   obtain⟨cs,tt,hb,hcell,hbd⟩:=zou hs ho hv
   refine⟨?_,hbd⟩
   have:=zdt (P:=P) (w:=w) hu hd (b:=(ρ id).b) (o:=off) (v:=v.γ E ρ) (by rw[zcm hb];exact hcell)
   simp[resS,h1,V.γ,asAddr,this]
  have many:zbS P t=true->zbe P t=true->∀ m,m=yy P t->ROk P (.cell a t) (.cn m (zy a)):=by
   intro hty hg m hm E ρ fr h w tmps v hs hf hv
   obtain⟨id,off,hp,hv⟩:=zgT (show za6 (fr.get (zy a)) (fun id off=>oc (yR h id) (fun o=>(zdu o off m).map .agg) none) none=some v from hv)
   obtain⟨o,ho,hv⟩:=zeW hv
   rw[yk]at ho
   obtain⟨l,hl,rfl⟩:=Option.map_eq_some_iff.1 hv
   obtain⟨h1,h2⟩:=hf a _ hp
   obtain⟨hlen,hbd,hcell⟩:=zcU hs ho hl
   refine⟨?_,hbd⟩
   obtain⟨g1,g2⟩:=zaj (w:=w) hty
   have hl2:=run_loadCells_list (P:=P) w ⟨(ρ id).b,off,none⟩ (γL E ρ l) hcell
   rw[γL_length,hlen,hm]at hl2
   have:(loadVar t ⟨(ρ id).b,off,none⟩).run P w=.ok (.agg (γL E ρ l).toArray) w:=by
    unfold loadVar
    simp[g2,hg,g1,hl2]
   simp[resS,h1,V.γ,asAddr,this]
  split at h
  ·rename_i z k ht
   simp at h;subst h
   obtain⟨d,hu,hd,_⟩:=zcP hY.ti ht
   exact⟨_,_,rfl,hl',one ⟨d,hu,hd⟩⟩
  ·rename_i ht
   simp at h;subst h
   obtain⟨hu,_⟩:=zbG hY.ti ht
   exact⟨_,_,rfl,hl',one ⟨_,hu,rfl⟩⟩
  ·rename_i fs z ht
   simp at h;subst h
   obtain⟨fl,hu,_,_,hty,hsz,hg⟩:=zgX hY.ti ht
   exact⟨_,_,rfl,hl',many hty hg _ (by rw[jv];exact hsz)⟩
  ·rename_i n1 e1 s1 g1 z ht
   simp at h;subst h
   obtain⟨hu,_,_,_,hty,hsz,hg⟩:=zdj hY.ti ht
   exact⟨_,_,rfl,hl',many hty hg _ (by rw[jv];exact hsz)⟩
  ·simp at h
theorem zi2 {Y:Ty} (hY:TyOk P Y):∀ {rs:List ResultVar} {l:List IR},zgk Y rs=some l->∀ (E:Env) (ρ:Rho) (fr:Fr) (h:H) (w:World) (tmps:Array Value) (vs:List V),Sat E ρ h w->yr E ρ h.n.toNat fr tmps->zhk fr h l=some vs ->
  (rs.mapM (resS tmps)).run P w=.ok (γL E ρ vs) w/\bdL h.n.toNat vs
 | [],l,hl,E,ρ,fr,h,w,tmps,vs,hs,hf,hv=>by
  simp[zgk]at hl;subst hl
  have hv:some []=some vs:=hv
  cases hv
  exact⟨by simp[γL],trivial⟩
 | r::rs,l,hl,E,ρ,fr,h,w,tmps,vs,hs,hf,hv=>by
  obtain⟨x,l',rfl,hl',hx⟩:=zsm hY hl
  have hv:oc (resV fr h x) (fun a=>oc (zhk fr h l') (fun b=>some (a::b)) none) none=some vs:=hv
  obtain⟨a,ha,hv⟩:=zeW hv
  obtain⟨b,hb,hv⟩:=zeW hv
  cases hv
  obtain⟨e1,b1⟩:=hx E ρ fr h w tmps a hs hf ha
  obtain⟨e2,b2⟩:=zi2 hY hl' E ρ fr h w tmps b hs hf hb
  refine⟨?_,b1,b2⟩
  rw[List.mapM_cons,Sem.run_bind,e1]
  simp only[Result.andThen_ok,Sem.run_bind,e2,Sem.run_pure,γL]
theorem zci {Y:Ty} (hY:TyOk P Y) {fn:Func} {l:List IR} (hl:zgk Y fn.results.toList=some l) {ρ:Rho} {fr:Fr} {h:H} {w:World} {tmps:Array Value} {vs:List V} (hs:Sat E ρ h w) (hf:yr E ρ h.n.toNat fr tmps) (hv:zhk fr h l=some vs) :
  (results fn tmps).run P w=.ok (if h:(γL E ρ vs).toArray.size=1 then (γL E ρ vs).toArray[0] else .tuple (γL E ρ vs).toArray) w/\bdL h.n.toNat vs:=by
 obtain⟨h1,h2⟩:=zi2 hY hl E ρ fr h w tmps vs hs hf hv
 refine⟨?_,h2⟩
 have e0:results fn tmps=(do
   let vs <- fn.results.mapM (resS tmps)
   pure (if h:vs.size=1 then vs[0] else .tuple vs)):=rfl
 rw[e0,Sem.run_bind,Array.mapM_eq_mapM_toList,Sem.run_map,h1]
 rfl
structure CxOk (E:Env) (P:Program) (Y:Ty) (C:Cx):Prop where
 ty:TyOk P Y
 mixed:P.follows .mixedOrders=true
 fn:∀ F i,C.fn F=some i->∃ (f:Func) (dr:Nat->Option Dr),P.funcs[F]? = some f/\j6 P F/\cFn Y dr f=some i/\(∀ c,f.body=some c->zam dr c=true)
 hook:∀ F s,C.hook F=some s->zk E P (fun G l h fa k=>bc (Nat.beq G F) (s l h fa k) 1)
theorem zfP {Y:Ty} {C:Cx} (hC:CxOk E P Y C) (n:Nat) {inner:z3} (ih:zk E P inner):zk E P (zdG C n inner):=by
  intro F l h fa k hk hfa
  have hk:oc (C.hook F) (fun s=>s l h fa k) (oc (C.fn F) (fun f=>callF C inner F f l h fa k) (Nat.succ (Nat.add (Nat.mul F 100) 51)))=0:=hk
  cases hS:C.hook F with
  | some s=>
   rw[hS]at hk
   exact hC.hook F s hS F l h fa k (by simp[jI];exact hk) hfa
  | none=>
   rw[hS]at hk
   cases hF:C.fn F with
   | none=>rw[hF]at hk;exact absurd (show Nat.succ _=0 from hk) (by simp)
   | some i=>
    rw[hF]at hk
    have hk:callF C inner F i l h fa k=0:=hk
    obtain⟨f,dr,hfn,hca,hcf,hdr⟩:=hC.fn F i hF
    refine⟨hca,?_⟩
    unfold cFn at hcf
    split at hcf
    rotate_left
    ·simp at hcf
    rename_i c rs hc hrs
    simp at hcf;subst hcf
    obtain⟨fr,hk,hfr⟩:=zfG hk
    obtain⟨ae,fr1,h1,fa1,hk1,hfa1,zr⟩:=j2 hC.ty hC.mixed (g:=⟨inner,F,C.fuel⟩) ih c fr h fa _ (hdr c hc) hfa hk
    have fin:(AE.exit' ae=.normal\/AE.exit' ae=.ret)->zkm rs fr1 h1 (fun v=>k v h1 fa1) (Nat.succ (Nat.add (Nat.mul F 100) 49))=0->∃ v h' fa',k v h' fa'=0/\FaOk E fa' /\
      ∀ ρ w,bdL h.n.toNat l->Sat E ρ h w->Calls P F (γL E ρ l).toArray w fun e w'=>∃ ρ',e=.returned (v.γ E ρ')/\Sat E ρ' h' w'/\Ext ρ h w ρ' h' w'/\v.bd h'.n.toNat:=by
     intro hae hr
     obtain⟨vs,hvs,hr⟩:=z9 (show oc (zhk fr1 h1 rs) _ _=0 from hr) (by simp)
     have hv:∃ v,k v h1 fa1=0/\(∀ n,bdL n vs->v.bd n)/\∀ ρ,(if h:(γL E ρ vs).toArray.size=1 then (γL E ρ vs).toArray[0] else .tuple (γL E ρ vs).toArray)=v.γ E ρ:=by
      match vs,hr with
      | [],hr=>exact⟨.tup [],hr,fun n hn=>hn,fun ρ=>rfl⟩
      | [x],hr=>exact⟨x,hr,fun n hn=>hn.1,fun ρ=>by simp[γL]⟩
      | x::y::r,hr=>exact⟨.tup (x::y::r),hr,fun n hn=>hn,fun ρ=>by simp[γL,V.γ]⟩
     obtain⟨v,hkv,hvb,hvγ⟩:=hv
     refine⟨v,h1,fa1,hkv,hfa1,fun ρ w hb hs=>?_⟩
     refine calls_of_wp hfn hc ?_
     ·have hf:yr E ρ h.n.toNat fr ((γL E ρ l).toArray ++ Array.replicate (f.ntmps - (γL E ρ l).toArray.size) undef):=by
       intro t v hv
       have h2:=hfr t v hv
       have ht:t<l.length:=(List.getElem?_eq_some_iff.1 h2).1
       refine⟨?_,(js _ l).1 hb v (List.mem_of_getElem? h2)⟩
       rw[Array.getElem?_append_left (by simp[γL_length];exact ht)]
       simp[γL_get,h2]
      refine zr ρ w { tmps:=(γL E ρ l).toArray ++ Array.replicate (f.ntmps - (γL E ρ l).toArray.size) undef,defers:=[] } _ hs hf (by simp[γL_length];omega) rfl ?_
      rintro a1 w1 ⟨ρ1,f1,n1,d1,s1,x1⟩
      obtain⟨e1,b1⟩:=zci hC.ty hrs s1 f1 hvs
      rw[hvγ]at e1
      have:bodyPost P f (fun e w'=>∃ ρ',e=.returned (v.γ E ρ')/\Sat E ρ' h1 w'/\Ext ρ h w ρ' h1 w'/\v.bd h1.n.toNat) .ret a1 w1:=⟨d1,_,e1,ρ1,rfl,s1,x1,hvb _ b1⟩
      rcases hae with h | h <;> rw[h] <;> exact this
    cases ae with
    | normal=>exact fin (.inl rfl) hk1
    | ret=>exact fin (.inr rfl) hk1
    | exit i=>exact absurd (show Nat.succ _=0 from hk1) (by simp)
theorem jq {Y:Ty} {C:Cx} (hC:CxOk E P Y C):∀ n,zk E P (zaM C n):=by
 intro n
 induction n with
 | zero=>intro F l h fa k hk;exact absurd (show Nat.succ _=0 from hk) (by simp)
 | succ n ih=>exact zfP hC n ih
end Go.Ev
end
set_option linter.unusedSimpArgs false
set_option linter.unusedVariables false
noncomputable section
namespace Go.Ev
open Go
variable {E:Env} {P:Program}
theorem zdX (c c':Option SB) (b b':Bool):yn E (andO c c') (match b,b' with | true,true=>true | _,_=>false)=(yn E c b && yn E c' b'):=by
 cases c <;> cases c' <;> cases b <;> cases b' <;> simp[yn,andO,SB.den]
theorem zos (c c':Option SB) (b b':Bool):yn E (andO c c') (b && b')=(yn E c b && yn E c' b'):=by
 cases c <;> cases c' <;> cases b <;> cases b' <;> simp[yn,andO,SB.den]
theorem zmM {e:EK} {es:List EK} {xs ys:List V} {c:Option SB} {b:Bool} (h:eqL (e::es) xs ys=some (c,b)) :
  ∃ x xs' y ys' c1 b1 c2 b2,xs=x::xs'/\ys=y::ys'/\eqC e x y=some (c1,b1)/\eqL es xs' ys'=some (c2,b2)/\yn E c b=(yn E c1 b1 && yn E c2 b2):=by
 cases xs with
 | nil=>simp[eqL]at h
 | cons x xs=>
  cases ys with
  | nil=>simp[eqL]at h
  | cons y ys=>
   simp only[eqL]at h
   split at h
   ·rename_i c1 b1 c2 b2 h1 h2
    simp only[Option.some.injEq,Prod.mk.injEq]at h
    obtain⟨rfl,rfl⟩:=h
    exact⟨x,xs,y,ys,c1,b1,c2,b2,rfl,rfl,h1,h2,zdX _ _ _ _⟩
   ·simp at h
theorem zgF {xs ys:List V} {c:Option SB} {b:Bool} (h:eqL [] xs ys=some (c,b)):xs=[]/\ys=[]/\yn E c b=true:=by
 cases xs <;> cases ys <;> simp[eqL]at h
 obtain⟨rfl,rfl⟩:=h
 exact⟨rfl,rfl,rfl⟩
theorem zfM:∀ (l m:List EK) {xs ys:List V} {c:Option SB} {b:Bool},eqL (l ++ m) xs ys=some (c,b) ->
  ∃ xs1 xs2 ys1 ys2 c1 b1 c2 b2,xs=xs1 ++ xs2/\ys=ys1 ++ ys2/\xs1.length=l.length/\ys1.length=l.length/\eqL l xs1 ys1=some (c1,b1)/\eqL m xs2 ys2=some (c2,b2)/\yn E c b=(yn E c1 b1 && yn E c2 b2)
 | [],m,xs,ys,c,b,h=>⟨[],xs,[],ys,none,true,c,b,rfl,rfl,rfl,rfl,rfl,h,by simp[yn]⟩
 | e::l,m,xs,ys,c,b,h=>by
  rw[List.cons_append]at h
  cases xs with
  | nil=>simp[eqL]at h
  | cons x xs=>
   cases ys with
   | nil=>simp[eqL]at h
   | cons y ys=>
    simp only[eqL]at h
    split at h
    ·rename_i c1 b1 c2 b2 h1 h2
     simp only[Option.some.injEq,Prod.mk.injEq]at h
     obtain⟨rfl,rfl⟩:=h
     obtain⟨xs1,xs2,ys1,ys2,d1,e1,d2,e2,rfl,rfl,q1,q2,q3,q4,q5⟩:=zfM l m h2
     refine⟨x::xs1,xs2,y::ys1,ys2,andO c1 d1,b1 && e1,d2,e2,rfl,rfl,by simp[q1],by simp[q2],?_,q4,?_⟩
     ·simp only[eqL,h1,q3];cases b1 <;> cases e1 <;> rfl
     ·refine(zdX _ _ _ _).trans ?_
      rw[zos,q5,Bool.and_assoc]
    ·simp at h
theorem ziV {α:Type} (post:List α):∀ xs:List α,zeF xs.length (xs ++ post)=some xs
 | []=>by cases post <;> rfl
 | x::xs=>by
  show oc (zeF xs.length (xs ++ post)) (fun l=>some (x::l)) none=_
  rw[ziV post xs];rfl
def zex (P:Program) (t:Nat) (xs:List V):V:=if zbe P t then .agg xs else xs.headD (.b true)
theorem zdR {t:Nat} {pre xs post:List V} {off:Nat} (h1:pre.length=off) (h2:xs.length=yy P t) (h3:zbe P t=false->xs.length=1):part (pre ++ (xs ++ post)) off (yy P t) (zbe P t)=some (zex P t xs):=by
 unfold part zex
 cases hg:zbe P t with
 | true=>
  have hd:zf7 off (pre ++ (xs ++ post))=xs ++ post:=by rw[ze9,<- h1,List.drop_left]
  rw[hd,<- h2]
  simp only[if_true]
  rw[ziV];rfl
 | false=>
  simp only[Bool.false_eq_true,if_false]
  match xs,h3 hg with
  | [x],_=>rw[jD,List.getElem?_append_right (by omega)];simp[h1]
theorem zfi {t:Nat} {d:TypeDesc} (h:P.underlying t=some d):zbe P t=zb7 d:=by simp[zbe,h]
theorem eqC_int {k:IntKind} {x y:V} {c:Option SB} {b:Bool} (h:eqC (.int k) x y=some (c,b)) (ρ:Rho):∃ p q,x.γ E ρ=.int k p/\y.γ E ρ=.int k q/\yn E c b=(p == q):=by
 simp only[eqC]at h
 split at h
 ·rename_i k1 a k2 b'
  split at h
  ·rename_i hk
   simp only[Bool.and_eq_true]at hk
   obtain rfl:=yG hk.1
   obtain rfl:=yG hk.2
   simp at h
   obtain⟨rfl,rfl⟩:=h
   refine⟨a,b',rfl,rfl,?_⟩
   simp[yn,yL]
   rfl
  ·simp at h
 ·split at h
  ·rename_i k1 a k2 b' h1 h2
   split at h
   ·rename_i hk
    simp only[Bool.and_eq_true]at hk
    obtain rfl:=yG hk.1
    obtain rfl:=yG hk.2
    simp at h
    obtain⟨rfl,rfl⟩:=h
    refine⟨_,_,zd8 h1 ρ,zd8 h2 ρ,?_⟩
    simp[yn,SB.den,zct,yL]
    rfl
   ·simp at h
  ·simp at h
mutual
theorem zhQ:∀ (d:Nat) (t:Nat) (l:List EK),eqOf P d t=some l->∀ (D:Nat) (ρ:Rho) (w:World) (xs ys:List V) (c:Option SB) (b:Bool),d<=D->eqL l xs ys=some (c,b) ->
  (Op.equalIn D t ((zex P t xs).γ E ρ) ((zex P t ys).γ E ρ)).run P w=.ok (yn E c b) w/\(zbe P t=false->xs.length=1/\ys.length=1)
 | 0,t,l,h,_,_,_,_,_,_,_,_,_=>by simp[eqOf]at h
 | d+1,t,l,h,D,ρ,w,xs,ys,c,b,hD,he=>by
  obtain⟨D,rfl⟩:∃ D',D=D'+1:=⟨D - 1,by omega⟩
  simp only[eqOf]at h
  split at h
  ·rename_i hu
   simp at h;subst h
   obtain⟨x,xs',y,ys',c1,b1,c2,b2,rfl,rfl,h1,h2,h3⟩:=zmM (E:=E) he
   obtain⟨rfl,rfl,h4⟩:=zgF (E:=E) h2
   obtain⟨p,q,e1,e2,e3⟩:=zmP (E:=E) h1 ρ
   have hg:zbe P t=false:=by rw[zfi hu];rfl
   refine⟨?_,fun _=>⟨rfl,rfl⟩⟩
   simp only[zex,hg,Bool.false_eq_true,if_false,List.headD_cons,e1,e2]
   rw[run_equalIn_bool' w D t p q hu,h3,e3,h4,Bool.and_true]
  ·rename_i k hu
   simp at h;subst h
   obtain⟨x,xs',y,ys',c1,b1,c2,b2,rfl,rfl,h1,h2,h3⟩:=zmM (E:=E) he
   obtain⟨rfl,rfl,h4⟩:=zgF (E:=E) h2
   obtain⟨p,q,e1,e2,e3⟩:=eqC_int (E:=E) h1 ρ
   have hg:zbe P t=false:=by rw[zfi hu];rfl
   refine⟨?_,fun _=>⟨rfl,rfl⟩⟩
   simp only[zex,hg,Bool.false_eq_true,if_false,List.headD_cons,e1,e2]
   rw[run_equalIn_int w D t k k p q hu,h3,e3,h4,Bool.and_true]
  ·rename_i fl hu
   split at h
   ·simp at h
   ·rename_i hst
    have hg:zbe P t=true:=by rw[zfi hu];rfl
    refine⟨?_,fun hf=>by rw[hg]at hf;simp at hf⟩
    have hfl:P.fieldsOf t=fl:=by simp[Program.fieldsOf,hu]
    simp only[zex,hg,if_true,V.γ]
    rw[run_equalIn_struct w D t _ _ (by rw[hfl];exact hu) (by simpa using hst),hfl]
    exact zmO d 0 fl.toList l h D ρ w [] [] xs ys c b (by omega) rfl rfl he
  ·rename_i n e hu
   split at h
   ·rename_i l1 h1
    split at h
    ·rename_i hc
     simp only[Bool.and_eq_true,Nat.beq_eq,jv]at hc
     simp at h;subst h
     have hg:zbe P t=true:=by rw[zfi hu];rfl
     refine⟨?_,fun hf=>by rw[hg]at hf;simp at hf⟩
     obtain⟨i,hi,his⟩:=zdU hc.2
     have hco:P.cellsOf e=yy P e:=by simp[Program.cellsOf,hi,his]
     simp only[zex,hg,if_true,V.γ]
     rw[run_equalIn_array w D _ _ hu hi,List.range_eq_range',hco]
     have key:∀ (n:Nat) (pre1 pre2 xs ys:List V) (j:Nat) (c:Option SB) (b:Bool) (w:World),pre1.length=j*yy P e->pre2.length=j*yy P e->eqL (rep n l1) xs ys=some (c,b) ->
       (Op.eqItems D e (yy P e) (γL E ρ (pre1 ++ xs)).toArray (γL E ρ (pre2 ++ ys)).toArray (List.range' j n)).run P w=.ok (yn E c b) w:=by
      intro n
      induction n with
      | zero=>
       intro pre1 pre2 xs ys j c b w _ _ he
       obtain⟨rfl,rfl,h4⟩:=zgF (E:=E) (show eqL [] xs ys=_ from he)
       rw[h4];simp[Op.eqItems,List.range']
      | succ n ih=>
       intro pre1 pre2 xs ys j c b w hp1 hp2 he
       obtain⟨xs1,xs2,ys1,ys2,c1,b1,c2,b2,rfl,rfl,q1,q2,q3,q4,q5⟩:=zfM (E:=E) l1 (rep n l1) (show eqL (l1 ++ rep n l1) xs ys=_ from he)
       obtain⟨r1,r2⟩:=zhQ d e l1 h1 D ρ w xs1 ys1 c1 b1 (by omega) q3
       obtain⟨p1,_⟩:=zcB (E:=E) (w:=w) hc.2 (ρ:=ρ) (zdR (pre:=pre1) (xs:=xs1) (post:=xs2) hp1 (by omega) (fun hf=>(r2 hf).1))
       obtain⟨p2,_⟩:=zcB (E:=E) (w:=w) hc.2 (ρ:=ρ) (zdR (pre:=pre2) (xs:=ys1) (post:=ys2) hp2 (by omega) (fun hf=>(r2 hf).2))
       rw[List.range'_succ]
       simp only[Op.eqItems,Sem.run_bind,p1,p2,r1,Result.andThen_ok]
       cases hb:yn E c1 b1 with
       | false=>simp[q5,hb]
       | true=>
        have:=ih (pre1 ++ xs1) (pre2 ++ ys1) xs2 ys2 (j+1) c2 b2 w (by rw[List.length_append,hp1,Nat.add_mul];omega) (by rw[List.length_append,hp2,Nat.add_mul];omega) q4
        simp only[List.append_assoc]at this
        simp[q5,hb,this]
     exact key n [] [] xs ys 0 c b w (by simp) (by simp) he
    ·simp at h
   ·simp at h
  ·simp at h
theorem zmO:∀ (d:Nat) (off:Nat) (fl:List Field) (l:List EK),eqFs P d off fl=some l->∀ (D:Nat) (ρ:Rho) (w:World) (pre1 pre2 xs ys:List V) (c:Option SB) (b:Bool),d<=D->pre1.length=off->pre2.length=off->eqL l xs ys=some (c,b) ->
  (Op.eqFields D (γL E ρ (pre1 ++ xs)).toArray (γL E ρ (pre2 ++ ys)).toArray fl).run P w=.ok (yn E c b) w
 | 0,off,fl,l,h,_,_,_,_,_,_,_,_,_,_,_,_,_=>by simp[eqFs]at h
 | d+1,off,[],l,h,D,ρ,w,pre1,pre2,xs,ys,c,b,hD,hp1,hp2,he=>by
  simp[eqFs]at h;subst h
  obtain⟨rfl,rfl,h4⟩:=zgF (E:=E) he
  rw[h4];simp[Op.eqFields]
 | d+1,off,f::r,l,h,D,ρ,w,pre1,pre2,xs,ys,c,b,hD,hp1,hp2,he=>by
  simp only[eqFs]at h
  split at h
  ·rename_i hf
   simp only[Bool.and_eq_true,decide_eq_true_eq,Nat.beq_eq]at hf
   obtain⟨hname,hoff⟩:=hf
   split at h
   ·rename_i l1 h1
    split at h
    ·rename_i hc
     simp only[Bool.and_eq_true,Nat.beq_eq,jv]at hc
     split at h
     ·rename_i m hm
      simp at h;subst h
      obtain⟨xs1,xs2,ys1,ys2,c1,b1,c2,b2,rfl,rfl,q1,q2,q3,q4,q5⟩:=zfM (E:=E) l1 m he
      obtain⟨r1,r2⟩:=zhQ d f.type l1 h1 D ρ w xs1 ys1 c1 b1 (by omega) q3
      obtain⟨p1,_⟩:=zcB (E:=E) (w:=w) hc.2 (ρ:=ρ) (zdR (pre:=pre1) (xs:=xs1) (post:=xs2) (off:=f.offset) (by omega) (by omega) (fun hf=>(r2 hf).1))
      obtain⟨p2,_⟩:=zcB (E:=E) (w:=w) hc.2 (ρ:=ρ) (zdR (pre:=pre2) (xs:=ys1) (post:=ys2) (off:=f.offset) (by omega) (by omega) (fun hf=>(r2 hf).2))
      have ih:=zmO d (off+l1.length) r m (by rw[<- jv];exact hm) D ρ w (pre1 ++ xs1) (pre2 ++ ys1) xs2 ys2 c2 b2 (by omega) (by rw[List.length_append];omega) (by rw[List.length_append];omega) q4
      simp only[List.append_assoc]at ih
      simp only[Op.eqFields,hname,ne_eq,not_false_eq_true,if_true,Sem.run_bind,p1,p2,r1,Result.andThen_ok]
      cases hb:yn E c1 b1 with
      | false=>simp[q5,hb]
      | true=>simp[q5,hb,ih]
     ·simp at h
    ·simp at h
   ·simp at h
  ·simp at h
end
theorem zdB:EqSpec P (zX P):=by
 intro t l h
 have h:eqT P t=some l:=h
 unfold eqT at h
 split at h
 ·simp at h
 ·rename_i hc
  simp only[Bool.or_eq_true,Bool.not_eq_true',not_or,Bool.not_eq_true,Bool.not_eq_false]at hc
  refine⟨hc.1,fun E ρ w xs ys c b he=>?_⟩
  have h1:=(zhQ (E:=E) 40 t l h 10000 ρ w xs ys c b (by decide) he).1
  simp only[zex,hc.2,if_true,V.γ]at h1
  exact h1
theorem ze3 {kd:IntKind} {v:V} (h:zas (.one kd) v=true):∃ n,v=.i kd n:=by
 cases v <;> simp only[zas]at h <;> first | (simp at h;done) | skip
 exact⟨_,by rw[yG h]⟩
theorem zf5 {kd:IntKind} (ρ:Rho) {n:Int}:∀ (l:List (V × V)) (es:List MapEntry) (i:Nat) (r:Option (Nat × V)),jt (.one kd) (.i kd n) l i=some r->es.map (fun e=>(e.key,e.val))=l.map (fun p=>(p.1.γ E ρ,p.2.γ E ρ)) ->
  Instr.findNow (.int kd) (.int kd n) es i=some (r.map (fun q=>(q.1,q.2.γ E ρ)))
 | [],es,i,r,h,he=>by
  have h:some none=some r:=h
  cases h
  obtain rfl:es=[]:=by simpa using he
  rfl
 | (a,b)::l,es,i,r,h,he=>by
  cases es with
  | nil=>simp at he
  | cons e es=>
   simp only[List.map_cons,List.cons.injEq,Prod.mk.injEq]at he
   obtain⟨⟨h1,h2⟩,h3⟩:=he
   have h:bc (zas (.one kd) a) (bc (V.beq (.i kd n) a) (zcR (jt (.one kd) (.i kd n) l (Nat.succ i)) (some (some (i,b)))) (jt (.one kd) (.i kd n) l (Nat.succ i))) none=some r:=h
   cases hk:zas (.one kd) a with
   | false=>rw[hk]at h;cases h
   | true=>
    rw[hk]at h
    have h:bc (V.beq (.i kd n) a) (zcR (jt (.one kd) (.i kd n) l (Nat.succ i)) (some (some (i,b)))) (jt (.one kd) (.i kd n) l (Nat.succ i))=some r:=h
    obtain⟨m,rfl⟩:=ze3 hk
    have h1:e.key=.int kd m:=h1
    have hb:V.beq (.i kd n) (.i kd m)=decide (n=m):=by
     have:kEq kd kd=true:=by cases kd <;> rfl
     simp only[V.beq,this,yL,Bool.true_and]
    rw[hb]at h
    by_cases hnm:n=m
    ·rw[decide_eq_true hnm]at h
     obtain⟨_,h⟩:=zdS h
     cases h
     subst hnm
     simp[Instr.findNow,Instr.sameNow,h1,h2]
    ·rw[decide_eq_false hnm]at h
     have:=zf5 ρ l es (i+1) r h h3
     simp[Instr.findNow,Instr.sameNow,h1,show (n == m)=false by simpa using hnm,this]
theorem zmy {k:TypeId} {kd:IntKind} (hu:P.underlying k=some (.int kd)):KeySpec P k (.one kd) where
 check:=fun E ρ w em v hv=>by
  obtain⟨n,rfl⟩:=ze3 hv
  exact MapKept.run_checkKey hu (k:=.int kd n) rfl em 9999
 find:=fun E ρ w v l r es hv hf he=>by
  obtain⟨n,rfl⟩:=ze3 hv
  exact MapKept.run_findKey hu (zf5 ρ l es 0 r hf he)
 checkS:=fun E ρ w em v hv=>by cases v <;> simp[zkG]at hv
 findS:=fun E ρ w v l es hv=>by cases v <;> simp[zkG]at hv
 stays:=fun E ρ w v hv=>by
  obtain⟨n,rfl⟩:=ze3 hv
  exact MapKept.run_keyThatStays (d:=.int kd) (k:=.int kd n) rfl
theorem zpx:∀ {l:List EK} {a b:List V},jL l a=true->jL l b=true->eqL l a b=some (none,jG a b)
 | [],a,b,ha,hb=>by
  cases a <;> cases b <;> simp[jL]at ha hb
  rfl
 | .bool::l,a,b,ha,hb=>by cases a <;> simp[jL]at ha
 | .int k::l,a,b,ha,hb=>by
  cases a with
  | nil=>simp[jL]at ha
  | cons x a=>
   cases b with
   | nil=>simp[jL]at hb
   | cons y b=>
    cases x <;> simp only[jL]at ha <;> first | (simp at ha;done) | skip
    cases y <;> simp only[jL]at hb <;> first | (simp at hb;done) | skip
    simp only[Bool.and_eq_true]at ha hb
    have h1:=yG ha.1
    have h2:=yG hb.1
    subst h1;subst h2
    have hk:kEq k k=true:=by cases k <;> rfl
    simp only[eqL,eqC,hk,Bool.and_self,if_true,zpx ha.2 hb.2,jG,V.beq,Bool.true_and,andO]
    rename_i n m
    cases iEq n m <;> cases jG a b <;> rfl
theorem zeh:∀ {l:List EK} {a:List V},jL l a=true->zaY l a=true
 | [],a,h=>by cases a <;> simp[jL]at h;rfl
 | .bool::l,a,h=>by cases a <;> simp[jL]at h
 | .int k::l,a,h=>by
  cases a with
  | nil=>simp[jL]at h
  | cons y a=>
   cases y <;> simp only[jL]at h <;> first | (simp at h;done) | skip
   simp only[Bool.and_eq_true]at h
   simp only[zaY,h.1,zeh h.2,Bool.and_self]
theorem zdQ (ρ:Rho):∀ {l:List EK} {a:List V},zaY l a=true->∀ x∈γL E ρ a,∃ k n,x=.int k n
 | [],a,h,x,hx=>by
  cases a <;> simp[zaY]at h
  cases hx
 | .bool::l,a,h,x,hx=>by cases a <;> simp[zaY]at h
 | .int k::l,a,h,x,hx=>by
  cases a with
  | nil=>cases hx
  | cons y a=>
   cases y <;> simp only[zaY]at h <;> first | (simp at h;done) | skip
   all_goals
    simp only[Bool.and_eq_true]at h
    rcases List.mem_cons.1 hx with rfl | hx
    ·exact⟨_,_,rfl⟩
    ·exact zdQ ρ h.2 x hx
theorem zqp (ρ:Rho) {l:List EK} {a:List V} (h:jL l a=true):∀ x∈γL E ρ a,∃ k n,x=.int k n:=zdQ ρ (zeh h)
theorem zjU:∀ {l:List EK} {a:List V},zaY l a=true->a.length=l.length
 | [],a,h=>by cases a <;> simp[zaY]at h;rfl
 | .bool::l,a,h=>by cases a <;> simp[zaY]at h
 | .int k::l,a,h=>by
  cases a with
  | nil=>simp[zaY]at h
  | cons y a=>
   cases y <;> simp only[zaY]at h <;> first | (simp at h;done) | skip
   all_goals
    simp only[Bool.and_eq_true]at h
    simp[zjU h.2]
theorem exE_ok {e:SE} {n:Int} (h:exE e n=true):e.den E≠n:=by
 unfold exE at h
 split at h
 ·rename_i x a
  rw[zaU]at h
  have h:=of_decide_eq_true h
  show (if SE.den E x<a then a else SE.den E x)≠n
  by_cases hc:SE.den E x<a
  ·rw[if_pos hc];omega
  ·rw[if_neg hc];omega
 ·rename_i x a
  rw[zaU]at h
  have h:=of_decide_eq_true h
  show (if a<SE.den E x then a else SE.den E x)≠n
  by_cases hc:a<SE.den E x
  ·rw[if_pos hc];omega
  ·rw[if_neg hc];omega
 ·cases h
theorem zkR:∀ {l:List EK} {a b:List V},zaY l a=true->jL l b=true->∃ c t,eqL l a b=some (c,t)/\(exL a b=true->yn E c t=false)
 | [],a,b,ha,hb=>by
  cases a <;> simp[zaY]at ha
  cases b <;> simp[jL]at hb
  exact⟨none,true,rfl,fun h=>by cases h⟩
 | .bool::l,a,b,ha,hb=>by cases a <;> simp[zaY]at ha
 | .int k::l,a,b,ha,hb=>by
  cases b with
  | nil=>simp[jL]at hb
  | cons y b=>
   cases y <;> simp only[jL]at hb <;> first | (simp at hb;done) | skip
   rename_i k2 m
   simp only[Bool.and_eq_true]at hb
   cases a with
   | nil=>simp[zaY]at ha
   | cons x a=>
    have hk:kEq k k=true:=by cases k <;> rfl
    cases x <;> simp only[zaY]at ha <;> first | (simp at ha;done) | skip
    ·rename_i k1 n
     simp only[Bool.and_eq_true]at ha
     obtain rfl:=yG ha.1
     obtain rfl:=yG hb.1
     obtain⟨c,t,h1,h2⟩:=zkR ha.2 hb.2
     refine⟨_,_,(by simp only[eqL,eqC,hk,Bool.and_self,if_true,h1];rfl),fun hx=>?_⟩
     refine(zdX _ _ _ _).trans ?_
     have hx:bc (bc (iEq n m) false true) true (exL a b)=true:=hx
     cases hnm:iEq n m with
     | false=>simp[yn]
     | true=>
      rw[hnm]at hx
      rw[h2 hx,Bool.and_false]
    ·rename_i k1 e
     simp only[Bool.and_eq_true]at ha
     obtain rfl:=yG ha.1
     obtain rfl:=yG hb.1
     obtain⟨c,t,h1,h2⟩:=zkR ha.2 hb.2
     refine⟨_,_,(by simp only[eqL,eqC,toE,hk,Bool.and_self,if_true,h1];rfl),fun hx=>?_⟩
     refine(zdX _ _ _ _).trans ?_
     have hx:bc (exE e m) true (exL a b)=true:=hx
     cases hem:exE e m with
     | true=>
      have:=exE_ok (E:=E) hem
      simp[yn,SB.den,zct,yL,SE.den,this]
     | false=>
      rw[hem]at hx
      rw[h2 hx,Bool.and_false]
theorem ze4 {l:List EK} {v:V} (h:zas (.agg l) v=true):∃ a,v=.agg a/\jL l a=true:=by
 cases v <;> simp only[zas]at h <;> first | (simp at h;done) | exact⟨_,rfl,h⟩
theorem zf6 {k:TypeId} {l:List EK} (heq:∀ (E:Env) (ρ:Rho) (w:World) xs ys c b,eqL l xs ys=some (c,b)->(Op.equal k (.agg (γL E ρ xs).toArray) (.agg (γL E ρ ys).toArray)).run P w=.ok (yn E c b) w) (ρ:Rho) (w:World) {a:List V} (ha:jL l a=true) :
  ∀ (ps:List (V × V)) (es:List MapEntry) (i:Nat) (r:Option (Nat × V)),jt (.agg l) (.agg a) ps i=some r->es.map (fun e=>(e.key,e.val))=ps.map (fun p=>(p.1.γ E ρ,p.2.γ E ρ)) ->
   (Instr.findAsking k (.agg (γL E ρ a).toArray) es i).run P w=.ok (r.map (fun q=>(q.1,q.2.γ E ρ))) w
 | [],es,i,r,h,he=>by
  have h:some none=some r:=h
  cases h
  obtain rfl:es=[]:=by simpa using he
  simp[Instr.findAsking]
 | (x,b)::ps,es,i,r,h,he=>by
  cases es with
  | nil=>simp at he
  | cons e es=>
   simp only[List.map_cons,List.cons.injEq,Prod.mk.injEq]at he
   obtain⟨⟨h1,h2⟩,h3⟩:=he
   have h:bc (zas (.agg l) x) (bc (V.beq (.agg a) x) (zcR (jt (.agg l) (.agg a) ps (Nat.succ i)) (some (some (i,b)))) (jt (.agg l) (.agg a) ps (Nat.succ i))) none=some r:=h
   cases hk:zas (.agg l) x with
   | false=>rw[hk]at h;cases h
   | true=>
    rw[hk]at h
    have h:bc (V.beq (.agg a) x) (zcR (jt (.agg l) (.agg a) ps (Nat.succ i)) (some (some (i,b)))) (jt (.agg l) (.agg a) ps (Nat.succ i))=some r:=h
    obtain⟨y,rfl,hy⟩:=ze4 hk
    have h1:e.key=.agg (γL E ρ y).toArray:=h1
    have zr:=heq E ρ w a y none (jG a y) (zpx ha hy)
    have hcb:yn E none (jG a y)=jG a y:=by simp[yn]
    rw[hcb]at zr
    have hvb:V.beq (.agg a) (.agg y)=jG a y:=by simp only[V.beq]
    rw[hvb]at h
    cases hb:jG a y with
    | true=>
     rw[hb]at h zr
     obtain⟨_,h⟩:=zdS h
     cases h
     simp[Instr.findAsking,h1,h2,zr]
    | false=>
     rw[hb]at h zr
     have:=zf6 heq ρ w ha ps es (i+1) r h h3
     simp[Instr.findAsking,h1,zr,this]
theorem ze6 {e:TypeId} (h:zeo P e=true):(∃ kd,P.underlying e=some (.int kd))/\zbS P e=true/\yy P e=1:=by
 unfold zeo at h
 simp only[Bool.and_eq_true,Nat.beq_eq]at h
 refine⟨?_,h.1.2,h.2⟩
 have:=h.1.1
 split at this
 ·rename_i kd hk;exact⟨kd,hk⟩
 ·cases this
theorem zjx {e:TypeId} (h:zeo P e=true) (em:Bool) (n:Nat) (x:Value) (w:World) (hx:∃ k m,x=.int k m):(Instr.checkKey em (n+1) e x).run P w=.ok () w:=by
 obtain⟨⟨kd,hu⟩,_⟩:=ze6 h
 obtain⟨k,m,rfl⟩:=hx
 simp[Instr.checkKey,run_underlying hu]
theorem zmd {e:TypeId} (h:zeo P e=true) (ρ:Rho) (w:World) {a:List V} {off:Nat} (ho:off<a.length):(Go.part e (γL E ρ a).toArray off).run P w=.ok ((a[off]).γ E ρ) w:=by
 obtain⟨⟨kd,hu⟩,h2,h3⟩:=ze6 h
 have hg:zbe P e=false:=by rw[zfi hu];rfl
 refine(zcB (E:=E) (w:=w) h2 (ρ:=ρ) (l:=a) (o:=off) (v:=a[off]) ?_).1
 rw[hg]
 unfold Go.Ev.part
 simp only[Bool.false_eq_true,if_false]
 rw[jD]
 simp[ho]
theorem zf3 {k:TypeId} {l:List EK} (hl:eqT P k=some l) (hwide:(match P.underlying k with | some (.array _ _) | some (.struct _)=>true | _=>false)=true)
  (hc:∀ (E:Env) (ρ:Rho) (w:World) (em:Bool) (a:List V),zaY l a=true->(Instr.checkKey em 10000 k (.agg (γL E ρ a).toArray)).run P w=.ok () w):KeySpec P k (.agg l) where
 check:=fun E ρ w em v hv=>by
  obtain⟨a,rfl,ha⟩:=ze4 hv
  exact hc E ρ w em a (zeh ha)
 checkS:=fun E ρ w em v hv=>by
  cases v <;> simp only[zkG]at hv <;> first | (simp at hv;done) | exact hc E ρ w em _ hv
 findS:=fun E ρ w v ps es hv hx he=>by
  cases v <;> simp only[zkG]at hv <;> first | (simp at hv;done) | skip
  rename_i a
  show (Instr.findKey k (.agg (γL E ρ a).toArray) es).run P w=.ok none w
  rw[run_findKey_eq w hwide]
  generalize 0=i
  induction ps generalizing es i with
  | nil=>
   obtain rfl:es=[]:=by simpa using he
   simp[Instr.findAsking]
  | cons p ps ih=>
   cases es with
   | nil=>simp at he
   | cons e es=>
    simp only[List.map_cons,List.cons.injEq,Prod.mk.injEq]at he
    obtain⟨⟨h1,h2⟩,h3⟩:=he
    have hp:=hx p (List.mem_cons_self ..)
    obtain⟨p1,p2⟩:=p
    cases p1 <;> simp only[exK]at hp <;> first | (simp at hp;done) | skip
    rename_i y
    simp only[Bool.and_eq_true]at hp
    obtain⟨c,t,g1,g2⟩:=zkR (E:=E) hv hp.1
    have zr:=(zdB k l hl).2 E ρ w a y c t g1
    rw[g2 hp.2]at zr
    have h1:e.key=.agg (γL E ρ y).toArray:=h1
    have:=ih es h3 (fun q hq=>hx q (List.mem_cons_of_mem _ hq)) (i+1)
    simp[Instr.findAsking,h1,zr,this]
 find:=fun E ρ w v ps r es hv hf he=>by
  obtain⟨a,rfl,ha⟩:=ze4 hv
  have h1:=zf6 (P:=P) (k:=k) (zdB k l hl).2 ρ w ha ps es 0 r hf he
  rw[<- run_findKey_eq w hwide]at h1
  exact h1
 stays:=fun E ρ w v hv=>by
  obtain⟨a,rfl,ha⟩:=ze4 hv
  have hs:Instr.sameBits 10000 (.agg (γL E ρ a).toArray) (.agg (γL E ρ a).toArray)=true:=by
   show Instr.sameBits (9999+1) _ _=true
   simp only[Instr.sameBits,beq_self_eq_true,Bool.true_and,List.all_eq_true]
   intro p hp
   obtain⟨i,hi,e⟩:=List.getElem_of_mem hp
   rw[List.getElem_zip]at e
   rw[<- e]
   obtain⟨kk,n,hx⟩:=zqp (E:=E) ρ ha _ (List.getElem_mem (by simpa using hi))
   simp only[List.toList_toArray]at hx ⊢
   rw[hx]
   simp[Instr.sameBits]
  simp[Instr.keyThatStays,V.γ,hs]
theorem kk_ok {k:TypeId} {kk:KK} (h:kkOf P k=some kk):KeySpec P k kk:=by
 unfold kkOf at h
 split at h
 ·rename_i kd hu
  cases h
  exact zmy hu
 ·rename_i n e hu
  split at h
  ·rename_i l hl
   split at h
   ·rename_i hc
    simp only[Bool.and_eq_true,Nat.beq_eq,jv]at hc
    cases h
    refine zf3 hl (by rw[hu]) fun E ρ w em a ha=>?_
    have hlen:=zjU ha
    obtain⟨i,hi,his⟩:=zdU (ze6 hc.1).2.1
    have hsz:=(ze6 hc.1).2.2
    rw[show (10000:Nat)=9999+1 from rfl,Instr.checkKey]
    simp only[Sem.run_bind,run_underlying hu,Result.andThen_ok]
    simp only[Std.Legacy.Range.forIn_eq_forIn_range',Std.Legacy.Range.size,Nat.sub_zero,Nat.add_one_sub_one,Nat.div_one]
    have each:∀ j∈List.range' 0 n,j<a.length:=fun j hj=>by
     have:=List.mem_range'_1.1 hj
     omega
    generalize List.range' 0 n=is at each
    induction is with
    | nil=>simp
    | cons j is ih=>
     have hj:=each j (by simp)
     have p1:=zmd (E:=E) hc.1 ρ w hj
     obtain⟨kk,m,hx⟩:=zdQ (E:=E) ρ ha ((a[j]).γ E ρ) (by rw[γL_eq];exact List.mem_map.2 ⟨_,List.getElem_mem hj,rfl⟩)
     have p2:=zjx hc.1 em 9998 ((a[j]).γ E ρ) w ⟨kk,m,hx⟩
     have hs:(sizeOf e).run P w=.ok 1 w:=by rw[(zaj (ze6 hc.1).2.1).1,hsz]
     simp only[List.forIn_cons,Sem.run_bind,hs,Nat.mul_one,Result.andThen_ok,p1,p2,Sem.run_pure]
     exact ih (fun y hy=>each y (by simp[hy]))
   ·cases h
  ·cases h
 ·rename_i fl hu
  split at h
  ·rename_i l hl
   split at h
   ·rename_i hc
    cases h
    refine zf3 hl (by rw[hu]) fun E ρ w em a ha=>?_
    have hlen:=zjU ha
    have each : ∀ f ∈ fl.toList, f.name ≠ "_" /\ zeo P f.type = true /\ f.offset < a.length := fun f hf => by
     have:=(zdZ _ _).1 hc f hf
     simp only[Bool.and_eq_true,decide_eq_true_eq,jv,Nat.blt_eq]at this
     exact⟨this.1.1,this.1.2,by omega⟩
    rw[show (10000:Nat)=9999+1 from rfl,Instr.checkKey]
    simp only[Sem.run_bind,run_underlying hu,Result.andThen_ok]
    rw[<- Array.forIn_toList]
    generalize fl.toList=L at each
    induction L with
    | nil=>simp
    | cons f L ih=>
     obtain⟨hn,ht,ho⟩:=each f (by simp)
     have p1:=zmd (E:=E) ht ρ w ho
     obtain⟨kk,m,hx⟩:=zdQ (E:=E) ρ ha ((a[f.offset]).γ E ρ) (by rw[γL_eq];exact List.mem_map.2 ⟨_,List.getElem_mem ho,rfl⟩)
     have p2:=zjx ht em 9998 ((a[f.offset]).γ E ρ) w ⟨kk,m,hx⟩
     simp only[List.forIn_cons,Sem.run_bind,hn,ne_eq,not_false_eq_true,if_true,Result.andThen_ok,p1,p2,Sem.run_pure]
     exact ih (fun y hy=>each y (by simp[hy]))
   ·cases h
  ·cases h
 ·cases h
theorem zmm:MpSpec P (zX P):=by
 intro t kk z h
 have h:mpT P t=some (kk,z):=h
 unfold mpT at h
 split at h
 ·rename_i k e hu
  split at h
  ·rename_i kk' z' h1 h2
   cases h
   exact⟨k,e,hu,kk_ok h1,h2⟩
  ·cases h
 ·cases h
theorem zaX:TyOk P (zX P):=⟨fun t=>.inr rfl,zdB,zmm⟩
end Go.Ev
end
set_option linter.unusedSimpArgs false
set_option linter.unusedVariables false
noncomputable section
namespace Go.Ev
open Go
variable {E:Env} {P:Program}
def zi6:PT O->PT O->Bool
 | .e,.e=>true
 | .n v l r,.n v' l' r'=>zcj v v' && zi6 l l' && zi6 r r'
 | _,_=>false
theorem zhs:∀ {x y:PT O},zi6 x y=true->x=y
 | .e,y,h=>by cases y <;> simp only[zi6]at h <;> first | (simp at h;done) | rfl
 | .n v l r,y,h=>by cases y <;> simp only[zi6,Bool.and_eq_true]at h <;> first | (simp at h;done) | rw[zby h.1.1,zhs h.1.2,zhs h.2]
def H.beq (a b:H):Bool:=hc a (fun n lo t=>hc b (fun n' lo' t'=>pEq n n' && pEq lo lo' && zi6 t t'))
theorem H.beq_ok {a b:H} (h:H.beq a b=true):a=b:=by
 cases a;cases b
 simp only[H.beq,zbA,Bool.and_eq_true]at h
 rw[zar h.1.1,zar h.1.2,zhs h.2]
structure Memo where
 F:Nat
 l:List V
 h:H
 v:V
 h':H
def memo (m:Memo) (inner:z3):z3:=fun F l h fa k=>bc (Nat.beq F m.F) (bc (jG l m.l) (bc (H.beq h m.h) (k m.v m.h' fa) (inner F l h fa k)) (inner F l h fa k)) (inner F l h fa k)
end Go.Ev
end
set_option linter.unusedSimpArgs false
set_option linter.unusedVariables false
noncomputable section
namespace Go.Ev
open Go
variable {E:Env} {P:Program}
def ooSub:Option O->Option O->Bool
 | none,_=>true
 | some a,some b=>O.beq a b
 | _,_=>false
theorem zsQ {x y:Option O} (h:ooSub x y=true) {o:O} (hx:x=some o):y=some o:=by
 subst hx
 cases y <;> simp only[ooSub]at h <;> first | (simp at h;done) | rw[O.beq_ok h]
def zi5:PT O->PT O->Bool
 | .e,_=>true
 | .n v l r,.n v' l' r'=>ooSub v v' && zi5 l l' && zi5 r r'
 | _,_=>false
theorem zhr:∀ (a b:PT O),zi5 a b=true->∀ (p:Ev.P) (o:O),a.get p=some o->b.get p=some o
 | .e,b,h,p,o,hp=>by rw[PT.get_e]at hp;simp at hp
 | .n v l r,.e,h,p,o,hp=>by simp[zi5]at h
 | .n v l r,.n v' l' r',h,p,o,hp=>by
  simp only[zi5,Bool.and_eq_true]at h
  cases p with
  | h=>exact zsQ h.1.1 hp
  | o p=>exact zhr l l' h.1.2 p o hp
  | i p=>exact zhr r r' h.2 p o hp
def chk (v:V) (hq:H):K:=fun v2 h2 _=>bc (V.beq v2 v) (bc (hc hq (fun n lo t=>hc h2 (fun n' lo' t'=>pEq n n' && pEq lo lo' && zi5 t t'))) 0 1) 1
theorem chk_ok {v v2:V} {hq h2:H} {fa:Fa} (h:chk v hq v2 h2 fa=0):v2=v/\hq.n=h2.n/\hq.lo=h2.lo/\∀ p o,hq.t.get p=some o->h2.t.get p=some o:=by
 obtain⟨e1,h⟩:=zK (show bc (V.beq v2 v) _ 1=0 from h) (by simp)
 obtain⟨e2,_⟩:=zK (show bc (hc hq _) 0 1=0 from h) (by simp)
 rw[zbA,zbA]at e2
 simp only[Bool.and_eq_true]at e2
 exact⟨V.beq_ok e1,zar e2.1.1,zar e2.1.2,zhr _ _ e2.2⟩
end Go.Ev
end
set_option linter.unusedSimpArgs false
set_option linter.unusedVariables false
noncomputable section
namespace Go.Ev
open Go
variable {E:Env} {P:Program}
def zeR (f:List V->Option V):List V->H->Fa->K->Nat:=fun l h fa k=>oc (f l) (fun v=>k v h fa) 1
theorem zmc {F:Nat} {f:List V->Option V} (hca:j6 P F)
  (hf:∀ l v,f l=some v->v.bd 0/\∀ (E:Env) (ρ:Rho) (w:World),Calls P F (γL E ρ l).toArray w fun e w'=>e=.returned (v.γ E ρ)/\w'.heap=w.heap/\w'.os=w.os/\w'.tape=w.tape/\w'.output=w.output) :
  zk E P (fun G l h fa k=>bc (Nat.beq G F) (zeR f l h fa k) 1):=by
 intro G l h fa k hk hfa
 obtain⟨hG,hk2⟩:=zK (show bc (Nat.beq G F) (zeR f l h fa k) 1=0 from hk) (by simp)
 clear hk
 have hG:G=F:=by simpa using hG
 subst hG
 obtain⟨v,hv,hk⟩:=z9 (show oc (f l) _ 1=0 from hk2) (by simp)
 obtain⟨h1,h2⟩:=hf l v hv
 refine⟨hca,v,h,fa,hk,hfa,fun ρ w hb hs=>(h2 E ρ w).mono ?_⟩
 rintro e w' ⟨he,hh,ho,ht,hu⟩
 exact⟨ρ,he,⟨fun p o hp=>by rw[hh];exact hs.obj p o hp,hs.inj,hs.bd⟩,
  ⟨Nat.le_refl _,rfl,fun _ _=>rfl,fun p o h3 h4=>by have:=(hs.bd p o h4).1;omega,ho,ht,hu,by rw[hh];exact Nat.le_refl _,fun _ _ _=>by rw[hh],fun _ _ _=>rfl,fun p o _ h3 h4=>⟨o,h3,h4⟩⟩,bd_mono (Nat.zero_le _) v h1⟩
def zoa:List V->Option V
 | [.i .u64 (.ofNat n)]=>bc (Nat.blt n 18446744073709551616) (some (.i .i64 (.ofNat (Lib.bitLen n)))) none
 | _=>none
theorem ztj {F:Nat} (hca:j6 P F)
  (hc:∀ (x:Int) (w:World),0<=x->x<=18446744073709551615->Calls P F #[.int .u64 x] w fun e w'=>e=.returned (.int .i64 (Lib.bitLen x.toNat))/\w'=w) :
  zk E P (fun G l h fa k=>bc (Nat.beq G F) (zeR zoa l h fa k) 1):=by
 refine zmc hca fun l v hv=>?_
 unfold zoa at hv
 split at hv
 ·rename_i n
  cases hn:Nat.blt n 18446744073709551616 with
  | false=>rw[hn]at hv;cases hv
  | true=>
   rw[hn]at hv
   have hv:some (V.i .i64 (.ofNat (Lib.bitLen n)))=some v:=hv
   cases hv
   have hn:n<18446744073709551616:=by simpa using hn
   refine⟨trivial,fun E ρ w=>(hc (.ofNat n) w (Int.natCast_nonneg n) (by show (n:Int)<=_;omega)).mono ?_⟩
   rintro e w' ⟨rfl,rfl⟩
   exact⟨rfl,rfl,rfl,rfl,rfl⟩
 ·cases hv
end Go.Ev
end
