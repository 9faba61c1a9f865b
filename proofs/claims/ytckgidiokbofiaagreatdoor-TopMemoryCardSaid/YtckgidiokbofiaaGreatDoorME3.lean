import Derived.Test.YtckgidiokbofiaaGreatDoorME2
import Derived.OrdersHeld
import Derived.LoopN
import Derived.Scope
import Derived.MapKept
import Derived.Laws.StructEq
import Derived.ChangeKeysEq
import Derived.WideKeyRuns
import Derived.Lib.BitFns
import Derived.Test.YtckgidiokbofiaaGreatDoorME1
import Derived.Defers
set_option linter.unusedSimpArgs false
set_option linter.unusedVariables false
noncomputable section
namespace Go.Ev
open Go
variable {E:Env} {P:Program} {N:Nat}
def AE.exit':AE->Exit
 | .normal=>.normal
 | .ret=>.ret
 | .exit n=>.exit n
def jo (ops:Array Oper):List (Bool × Nat)->Array Bool->Bool
 | [],listed=>(Region.ready .any ops listed).isEmpty
 | (true,i)::r,listed=>decide (i<ops.size) && Region.free .any ops listed i && (Region.ready .any ops listed).contains i && jo ops r (listed.setIfInBounds i true)
 | (false,i)::r,listed=>decide (i<ops.size) && decide (Region.ready .any ops listed=[i]) && jo ops r (listed.setIfInBounds i true)
def ziT (ops:Array Oper) (ord:List (Bool × Nat)):Bool:=Region.noSelect ops && decide (ord.length=ops.size) && jo ops ord (Array.replicate ops.size false)
def zfc (ops:Array Oper) (m:Nat) (tl:List Nat):Bool:=
 EvQ.lexTailP .any ops m tl || (decide (ops.size<=m) && tl.isEmpty && Region.lexB .any ops) || (tl.isEmpty && EvQ.lexTwo .any ops m)
def mixG (ops:Array Oper) (n:Nat) (ord:List (Bool × Nat)) (listed:Array Bool):Bool:=(Region.ready .any ops listed).all (fun j=>decide (n<=j)) && jo ops ord listed
def mixB (ops:Array Oper) (n:Nat) (ord:List (Bool × Nat)):Bool:=
 Region.noSelect ops && decide (n<ops.size) && Region.sinkB .any ops n && EvQ.tailB .any ops n && decide (n+ord.length=ops.size) && EvQ.lexHeadF .any ops (mixG ops n ord) n 0 (Array.replicate ops.size false)
def jV (ops:Array Oper):List Nat->Array Bool->Bool
 | [],listed=>(Region.ready .any ops listed).isEmpty
 | i::r,listed=>decide (i<ops.size) && decide (Region.ready .any ops listed=[i]) && jV ops r (listed.setIfInBounds i true)
def jv (ops:Array Oper) (D tl:List Nat):List (Bool × Nat)->Array Bool->Bool
 | [],listed=>EvQ.doneD D listed && jV ops tl listed
 | (true,i)::r,listed=>D.contains i && decide (i<ops.size) && Region.free .any ops listed i && (Region.ready .any ops listed).contains i && jv ops D tl r (listed.setIfInBounds i true)
 | (false,i)::r,listed=>D.contains i && decide (i<ops.size) && decide (Region.ready .any ops listed=[i]) && jv ops D tl r (listed.setIfInBounds i true)
def zd6 (ops:Array Oper) (ord:List (Bool × Nat)) (tl:List Nat):Bool:=
 Region.noSelect ops && decide (ord.length+tl.length=ops.size) && EvQ.restOk ops (ord.map (·.2)) && jv ops (ord.map (·.2)) tl ord (Array.replicate ops.size false)
def sub2 (r:List Nat) (i q:Nat):Bool:=r.contains i && r.all (fun j=>Nat.beq j i || Nat.beq j q)
def apB (ops:Array Oper) (q i:Nat):Bool:=match ops[q]?,ops[i]? with
 | some a,some b=>a.apart ops b
 | _,_=>false
def chF (ops:Array Oper) (q:Nat) (tl:List Nat):List Nat->Array Bool->Bool
 | [],L=>decide (Region.ready .any ops L=[q]) && jV ops tl (L.setIfInBounds q true)
 | i::r,L=>decide (i<ops.size) && apB ops q i && sub2 (Region.ready .any ops L) i q && decide (Region.ready .any ops (L.setIfInBounds q true)=[i]) && chF ops q tl r (L.setIfInBounds i true)
def goF (ops:Array Oper) (D:List Nat) (q:Nat) (ch tl:List Nat):List (Bool × Nat)->Array Bool->Bool
 | [],L=>EvQ.doneD D L && chF ops q tl ch L
 | (true,i)::r,L=>D.contains i && apB ops q i && (Region.free .any ops L i && (Region.ready .any ops L).contains i) && (Region.free .any ops (L.setIfInBounds q true) i && (Region.ready .any ops (L.setIfInBounds q true)).contains i) && goF ops D q ch tl r (L.setIfInBounds i true)
 | (false,i)::r,L=>D.contains i && apB ops q i && sub2 (Region.ready .any ops L) i q && decide (Region.ready .any ops (L.setIfInBounds q true)=[i]) && goF ops D q ch tl r (L.setIfInBounds i true)
def zl5 (ops:Array Oper) (q:Nat):Bool:=match ops[q]? with
 | some o=>o.guard.isNone && o.dst.isSome && (match o.op with
  | .alloc _=>true
  | _=>false)
 | none=>false
def zfI (ops:Array Oper) (q:Nat):Bool:=match ops[q]? with
 | some o=>o.guard.isNone && o.dst.isSome && (match o.op with
  | .alloc _=>true
  | .makeMap _ none=>true
  | _=>false)
 | none=>false
def zec (ops:Array Oper) (D:List Nat):List Nat->Array Bool->Bool
 | [],L=>(Region.ready .any ops L).isEmpty && EvQ.doneD D L
 | i::r,L=>D.contains i && decide (i<ops.size) && decide (Region.ready .any ops L=[i]) && zec ops D r (L.setIfInBounds i true)
def endF (ops:Array Oper) (D:List Nat) (q:Nat) (tl:List Nat) (L:Array Bool):Bool:=
 !(EvQ.doneD D L) && decide (Region.ready .any ops L=[q]) && zec ops D tl (L.setIfInBounds q true)
def goK (ops:Array Oper) (D:List Nat) (q:Nat) (tl:List Nat):List (Bool × Nat)->Array Bool->Bool
 | [],L=>endF ops D q tl L
 | (true,i)::r,L=>D.contains i && apB ops q i && (Region.free .any ops L i && (Region.ready .any ops L).contains i) && (Region.free .any ops (L.setIfInBounds q true) i && (Region.ready .any ops (L.setIfInBounds q true)).contains i) && goK ops D q tl r (L.setIfInBounds i true)
 | (false,i)::r,L=>D.contains i && apB ops q i && sub2 (Region.ready .any ops L) i q && decide (Region.ready .any ops (L.setIfInBounds q true)=[i]) && goK ops D q tl r (L.setIfInBounds i true)
def floKB (ops:Array Oper) (ord:List (Bool × Nat)) (q:Nat) (tl:List Nat):Bool:=
 Region.noSelect ops && decide (tl.length+ord.length+1=ops.size) && EvQ.restOkQ ops (ord.map (·.2) ++ tl) q && !((ord.map (·.2) ++ tl).contains q) && zfI ops q && goK ops (ord.map (·.2) ++ tl) q tl ord (Array.replicate ops.size false)
def dstB (ops:Array Oper) (es:List Nat) (t:Nat):Bool:=(List.range ops.size).all (fun j=>match ops[j]? with
 | some o=>(match o.dst with
  | some u=>!(Nat.beq u t) || es.contains j
  | none=>true)
 | none=>true)
def slB (ops:Array Oper) (dq i:Nat) (sl:List Nat):Bool:=sl.all (fun t=>!(Nat.beq t dq) && dstB ops (EvQ.edgesOf ops i) t)
def isMk (ops:Array Oper) (q dq:Nat):Bool:=match ops[q]? with
 | some o=>o.guard.isNone && (match o.dst with | some d=>Nat.beq d dq | none=>false) && (match o.op with
  | .makeMap _ none=>true
  | _=>false)
 | none=>false
def zwB (ops:Array Oper) (ty dq i:Nat):Bool:=match ops[i]? with
 | some o=>o.dst.isNone && (match o.op with
  | .insert t (.tmp m) _ _=>Nat.beq t ty && Nat.beq m dq
  | _=>false)
 | none=>false
def ziR (ops:Array Oper):List (Nat × List Nat)->Nat
 | (i,_)::_=>(match ops[i]? with
  | some o=>(match o.op with
   | .insert t _ _ _=>t
   | _=>0)
  | none=>0)
 | []=>0
def chB (ops:Array Oper):List (Nat × List Nat)->Bool
 | []=>true
 | [_]=>true
 | a::b::r=>(EvQ.edgesOf ops b.1).contains a.1 && chB ops (b::r)
def zck (ops:Array Oper):List Nat->List Nat
 | []=>[]
 | i::r=>(match ops[i]? with
  | some o=>(match o.dst with
   | some d=>d::zck ops r
   | none=>zck ops r)
  | none=>zck ops r)
def zws (ops:Array Oper) (ord:List Nat) (qs cs:List (Nat × List Nat)) (q:Nat) (ins:List (Nat × List Nat)) (n0:Nat):Bool:=match dstK ops.toList q with
 | none=>false
 | some dq=>ord.all (fun i=>decide (i<n0)) && decide (n0<=ops.size) && decide (q<n0) && isMk ops q dq && decide ((qs.map (·.1) ++ (cs.map (·.1) ++ q::ins.map (·.1))).Nodup) &&
  (List.range n0).all (fun i=>(qs.map (·.1) ++ (cs.map (·.1) ++ q::ins.map (·.1))).contains i && (EvQ.edgesOf ops i).all (fun j=>Nat.blt j i)) &&
  (qs ++ (cs ++ ins)).all (fun x=>decide (x.1<n0) && slB ops dq x.1 x.2) && chB ops cs && ins.all (fun x=>(EvQ.edgesOf ops x.1).contains q && zwB ops (ziR ops ins) dq x.1) &&
  decide ((zck ops (List.range n0)).Nodup) && (List.range' n0 (ops.size - n0)).all (fun i=>(List.range n0).all (fun j=>(EvQ.edgesOf ops i).contains j)) &&
  jV ops (List.range' n0 (ops.size - n0)) (Array.replicate n0 true ++ Array.replicate (ops.size - n0) false)
def floB (ops:Array Oper) (ord:List (Bool × Nat)) (ch:List Nat) (q:Nat) (tl:List Nat):Bool:=
 Region.noSelect ops && decide (tl.length+ch.length+ord.length+1=ops.size) && EvQ.restOkQ ops (ord.map (·.2)) q && !((ord.map (·.2)).contains q) && zl5 ops q && goF ops (ord.map (·.2)) q ch tl ord (Array.replicate ops.size false)
def zfs (ops:Array Oper):List Nat->Array Bool->Option (Array Bool)
 | [],L=>some L
 | i::r,L=>bif decide (i<ops.size) && Region.free .any ops L i && (Region.ready .any ops L).contains i then zfs ops r (L.setIfInBounds i true) else none
def zfN (ops:Array Oper) (pre:List Nat) (xs ys:List (Bool × Nat)):Bool:=Region.noSelect ops && decide (pre.length+xs.length=ops.size) && decide (pre.length+ys.length=ops.size) && (match zfs ops pre (Array.replicate ops.size false),xs,ys with
 | some L,(false,i)::r,(false,j)::s=>decide (Region.ready .any ops L=[i,j]) && jo ops r (L.setIfInBounds i true) && jo ops s (L.setIfInBounds j true)
 | _,_,_=>false)
def zH (dr:Nat->Option Dr):Code->Bool
 | .seq a b=>zH dr a && zH dr b
 | .cond _ a b=>zH dr a && zH dr b
 | .block _ a=>zH dr a
 | .loop a=>zH dr a
 | .scope a=>zH dr a
 | .region id ops true=>match dr id with
  | some (.tail m tl)=>zfc ops m tl
  | some (.held bs ord)=>ziT ops ord
  | some (.mix n bs ord)=>mixB ops n ord
  | some (.hold2 bs ord tl)=>zd6 ops ord tl
  | some (.flo bs ord ch q tl)=>floB ops ord ch q tl
  | some (.heldK ks ord)=>ziT ops ord
  | some (.heldK2 ks ord tl)=>zd6 ops ord tl
  | some (.floK ks ord q tl)=>floKB ops ord q tl
  | some (.mapK _ ord qs cs q ins n0)=>zws ops ord qs cs q ins n0
  | some (.fork _ pre xs ys)=>zfN ops pre xs ys
  | none=>true
 | _=>true
def zeB (E:Env) (P:Program) (N:Nat) (c:Code) (fr:Fr) (h:H) (k:K2):Prop:=
 ∃ ae fr' h' fa',k ae fr' h' fa'=0/\FaOk E fa'/\∀ {DS:List Deferred} ρ w a QQ,Sat E ρ h w->zw E ρ h.n.toNat fr (a:Act).tmps->N<=a.tmps.size->a.defers=DS->(∀ a' w',At E N DS ρ h w fr' h' a' w'->QQ (AE.exit' ae) a' w')->c.wp P QQ a w
theorem zdl {ρ:Rho} {h:H} {w:World} (s:Sat E ρ h w):Sat E ρ h w.drew:=⟨s.obj,s.inj,s.bd⟩
theorem jG {ρ:Rho} {h:H} {w:World} (s:Sat E ρ h w):Ext ρ h w ρ h w.drew:=
 ⟨Nat.le_refl _,rfl,fun _ _=>rfl,fun p o h1 h2=>by have:=(s.bd p o h2).1;omega,rfl,rfl,rfl,Nat.le_refl _,fun _ _ _=>rfl,fun _ _ _=>rfl,fun p o _ h1 h2=>⟨o,h1,h2⟩⟩
theorem zzM (ops:Array Oper) (tl:List Nat):yW ops.toList tl=EvQ.pick ops tl:=by
 induction tl with
 | nil=>rfl
 | cons i r ih=>
  simp only[yW,zX,EvQ.pick,List.filterMap_cons]
  simp only[Array.getElem?_toList]
  cases ops[i]? with
  | none=>simpa [EvQ.pick] using ih
  | some o=>simpa [EvQ.pick] using ih
def yr (hS h:H):Prop:=∀ p o,hS.t.get p=some o->o.live=true->h.t.get p=some o
theorem y6 {ρ0 ρ:Rho} {hS h:H} {w0 w:World} (s0:Sat E ρ0 hS w0) (s:Sat E ρ h w) (hk:yr hS h) (ha:∀ p:Ev.P,p.toNat<hS.n.toNat->ρ p=ρ0 p):Sat E ρ0 hS w:=by
 refine⟨fun p o hp=>?_,fun p q o o' hp hq l1 l2 he=>?_,s0.bd⟩
 ·cases hl:o.live with
  | false=>cases o <;> simp[O.live]at hl;trivial
  | true=>
   have h1:=s.obj p o (hk p o hp hl)
   rw[ha p (s0.bd p o hp).1]at h1
   exact O.Is_agree E (fun i hi=>(ha i hi).symm) (s0.bd p o hp).2 h1
 ·refine s.inj p q o o' (hk p o hp (yA l1)) (hk q o' hq l2) l1 l2 ?_
  rw[ha p (s0.bd p o hp).1,ha q (s0.bd q o' hq).1];exact he
theorem za8 {fr:Fr} {e:Nat} (he:e≠0):∀ (bs:List Nat) (h:H) (k:H->Nat),zcN fr e (bs.map zp) h k=0->∃ hS,k hS=0/\hS.n=h.n/\yr hS h /\
  ∀ (E:Env) ρ w tmps,zw E ρ h.n.toNat fr tmps->Sat E ρ h w->Sat E ρ hS w
 | [],h,k,hk=>⟨h,hk,rfl,fun p o hp _=>hp,fun E ρ w tmps _ hs=>hs⟩
 | b::r,h,k,hk=>by
  have hk:zak (fr.get (zp b)) (fun id _=>jL h id .dead (fun h=>zcN fr e (r.map zp) h k)) e=0:=hk
  obtain⟨id,off,hp,hk⟩:=zbC hk he
  rw[y9]at hk
  obtain⟨hS,h1,h2,h3,h4⟩:=za8 he r _ k hk
  refine⟨hS,h1,h2,fun p o ho hl=>?_,fun E ρ w tmps hf hs=>h4 E ρ w tmps hf ?_⟩
  ·have h5:=h3 p o ho hl
   simp only[H.put,get_set]at h5
   split at h5
   ·simp at h5;subst h5;simp[O.live]at hl
   ·exact h5
  ·have hid:=(hf b _ hp).2
   have hg:∀ q o',(h.put id .dead).t.get q=some o'->(q=id/\o'=.dead)\/h.t.get q=some o':=by
    intro q o' hq
    simp only[H.put,get_set]at hq
    split at hq
    ·rename_i e;simp at hq;exact .inl ⟨Ev.P.toNat_inj e,hq.symm⟩
    ·exact .inr hq
   refine⟨fun q o' hq=>?_,fun p q o o' hp hq l1 l2 he=>?_,fun q o' hq=>?_⟩
   ·rcases hg q o' hq with ⟨rfl,rfl⟩ | hq
    ·trivial
    ·exact hs.obj q o' hq
   ·rcases hg p o hp with ⟨rfl,rfl⟩ | hp
    ·simp[O.mine]at l1
    ·rcases hg q o' hq with ⟨rfl,rfl⟩ | hq
     ·simp[O.live]at l2
     ·exact hs.inj p q o o' hp hq l1 l2 he
   ·rcases hg q o' hq with ⟨rfl,rfl⟩ | hq
    ·exact⟨hid,trivial⟩
    ·exact hs.bd q o' hq
theorem zxV {hS:H} {id:Ev.P} (h:zl4 hS id=true):hS.n.toNat<=id.toNat\/hS.t.get id=some .dead:=by
 unfold zl4 at h
 rw[jX]at h
 cases hp:pLe hS.n id with
 | true=>exact .inl (by simpa [pLe] using hp)
 | false=>
  rw[hp]at h
  have h:(match hS.t.get id with | some .dead=>true | _=>false)=true:=h
  split at h
  ·rename_i h1;exact .inr h1
  ·simp at h
theorem zaQ {Y:Ty} (hY:TyOk P Y) {o:Oper} {i:IOp} (hc:cOp Y o.op=some i) {fr:Fr} {h hS:H} (hm:zad i fr hS=true) {k:KV} {e:Nat} (hr:evI i fr h k e=0) (he:e≠0) :
  ∃ v h',k v h'=0/\(∀ (E:Env) (ρ:Rho) (a:Act) (w:World),zw E ρ h.n.toNat fr a.tmps->Sat E ρ h w->zek E P o a ρ h w v h') /\
   ((∀ p o,hS.t.get p=some o->p.toNat<hS.n.toNat)->hS.n.toNat<=h.n.toNat->yr hS h->yr hS h'):=by
 rcases zma i fr h with h1 | ⟨v,h',h1⟩
 ·exact absurd ((h1 k e).symm.trans hr) he
 ·let k':KV:=fun v2 h2=>@ite _ (v2=v/\h2=h') (Classical.propDecidable _) 0 1
  have hk':evI i fr h k' 1=0:=(h1 _ _).trans (by simp[k'])
  have hkd:∀ v2 h2,k' v2 h2=0->h2=h':=by
   intro v2 h2 hk
   by_cases hc:v2=v/\h2=h'
   ·exact hc.2
   ·simp only[k']at hk;rw[if_neg hc]at hk;simp at hk
  refine⟨v,h',by rw[<- h1 k e];exact hr,fun E ρ a w hf hs=>?_,fun hb hn hke=>?_⟩
  ·obtain⟨v2,h2,hp,hk⟩:=zwQ hY hc hk' (by simp) hf hs
   by_cases hc:v2=v/\h2=h'
   ·rw[hc.1,hc.2]at hp;exact hp
   ·simp only[k']at hk;rw[if_neg hc]at hk;simp at hk
  ·have add:∀ oo,h.add oo=h'->yr hS h':=by
    rintro oo rfl p o hp hl
    have h2:=hke p o hp hl
    have h3:=hb p o hp
    simp only[H.add,get_set]
    rw[if_neg (by omega)];exact h2
   have newk:∀ t l (vv:Ev.P->V),zf8 h t l vv k' 1=0->yr hS h':=by
    intro t l vv hr
    obtain⟨_,hr⟩:=zn hr (by simp)
    rw[ji]at hr
    exact add _ (hkd _ _ hr)
   have put:∀ id oo,zl4 hS id=true->h.put id oo=h'->yr hS h':=by
    rintro id oo hd rfl p o hp hl
    have h2:=hke p o hp hl
    simp only[H.put,get_set]
    rw[if_neg ?_];exact h2
    intro e
    have e:=Ev.P.toNat_inj e
    subst e
    rcases zxV hd with h3 | h3
    ·have:=hb _ o hp;omega
    ·rw[hp]at h3;cases h3;simp[O.live]at hl
   cases i <;> simp only[zad]at hm <;> try (simp at hm;done)
   case new t l=>exact newk t l _ hk'
   case box t x=>
    obtain⟨v,hv,hr⟩:=zA (show oc (od x fr) _ 1=0 from hk') (by simp)
    exact newk t _ _ hr
   case bsl t n z ps=>
    obtain⟨l,hl,hr⟩:=zA (show oc (fill fr z ps) _ 1=0 from hk') (by simp)
    exact newk t _ _ hr
   case st n a x=>
    have hk':bc (Nat.beq n 1) (eSt1 a x) (eStN n a x) fr h k' 1=0:=hk'
    cases hb1:Nat.beq n 1 with
    | true=>
     rw[hb1]at hk'
     have hr:eSt1 a x fr h k' 1=0:=hk'
     obtain⟨id,off,hp,hr⟩:=zbC hr (by simp)
     obtain⟨v,hv,hr⟩:=zA hr (by simp)
     obtain⟨hmm,hr⟩:=zn hr (by simp)
     obtain⟨oo,ho,hr⟩:=zA hr (by simp)
     obtain⟨hone,hr⟩:=zn hr (by simp)
     obtain⟨o',hp',hr⟩:=zwi hr (by simp)
     rw[y9]at hr
     rw[hp]at hm
     exact put id o' hm (hkd _ _ hr)
    | false=>
     rw[hb1]at hk'
     have hr:eStN n a x fr h k' 1=0:=hk'
     obtain⟨id,off,hp,hr⟩:=zbC hr (by simp)
     obtain⟨v,hv,hr⟩:=zA hr (by simp)
     obtain⟨hmm,hr⟩:=zn hr (by simp)
     obtain⟨oo,ho,hr⟩:=zA hr (by simp)
     obtain⟨hlen,hr⟩:=zn hr (by simp)
     obtain⟨hone,hr⟩:=zn hr (by simp)
     obtain⟨o',hp',hr⟩:=zlM hr (by simp)
     rw[y9]at hr
     rw[hp]at hm
     exact put id o' hm (hkd _ _ hr)
theorem yf {Y:Ty} {all:List Oper} {q:Bool} {i:Nat} {r:List (Bool × Nat)} {l:List (Bool × OI)} (h:zZ Y N all ((q,i)::r)=some l):∃ o x l',nth all i=some o/\jQ Y N all o=some x/\zZ Y N all r=some l'/\l=(q,x)::l':=by
 simp only[zZ]at h
 split at h
 ·rename_i o r' ho hr
  split at h
  ·rename_i x hx
   simp at h;subst h
   exact⟨o,x,r',ho,hx,hr,rfl⟩
  ·simp at h
 ·simp at h
theorem yx {all:List Oper} {o:Oper} (h:zbt all o.guard=some none):o.guard=none:=by
 cases hg:o.guard with
 | none=>rfl
 | some jw=>
  obtain⟨j,want⟩:=jw
  rw[hg]at h
  simp only[zbt]at h
  split at h <;> simp at h
theorem zay {Y:Ty} (hY:TyOk P Y) {g:Ctx} (hcall:zi E P g.call) {ops:Array Oper} (hsel:Region.noSelect ops=true) {hS:H} {k:K1}:∀ (ord:List (Bool × Nat)) (l:List (Bool × OI)) (fr:Fr) (h:H) (fa:Fa),
  zZ Y N ops.toList ord=some l->FaOk E fa->z3 hS l g fr h fa k=0 ->
  ∃ fr' h' fa',k fr' h' fa'=0/\FaOk E fa'/\∀ listed,jo ops ord listed=true->∀ {DS:List Deferred} ρ0 ρ w a QQ,hS.n.toNat<=h.n.toNat->yr hS h->Sat E ρ0 hS w->(∀ p:Ev.P,p.toNat<hS.n.toNat->ρ p=ρ0 p)->Sat E ρ h w->zw E ρ h.n.toNat fr (a:Act).tmps->N<=a.tmps.size->a.defers=DS ->
   (∀ c a w,¬ QQ (.panic c) a w)->(∀ a' w',At E N DS ρ h w fr' h' a' w'->QQ .normal a' w')->wpAnyH P .any ops QQ (Sat E ρ0 hS) ord.length listed a w
 | [],l,fr,h,fa,hl,hfa,hk=>by
  simp[zZ]at hl;subst hl
  exact⟨fr,h,fa,hk,hfa,fun listed hB {DS} ρ0 ρ w a QQ hn hke hs0 ha hs hf hN hd hp hq=>wpAnyH_done (by simpa [jo] using hB) (hq a w ⟨ρ,hf,hN,hd,hs,hs.refl E⟩) _⟩
 | (true,i)::r,l,fr,h,fa,hl,hfa,hk=>by
  obtain⟨o,x,l2,ho,hx,hl2,rfl⟩:=yf hl
  rw[zX,Array.getElem?_toList]at ho
  have hk:OI.go qOp hNo x g fr hS fa (fun fr _ fa=>z3 hS l2 g fr h fa k)=0:=hk
  obtain⟨d,gg,hd,hg,hxx⟩:=z8 hx
  rcases hxx with ⟨ii,hi,rfl⟩ | ⟨cl,f0,f,ll,hop,hcal,hf0,hll,rfl⟩
  rotate_left
  ·exact absurd (show err g 63=0 from hk) (zl _ _)
  have hk:qOp d gg ii g fr hS fa (fun fr _ fa=>z3 hS l2 g fr h fa k)=0:=hk
  rcases yE hg hfa hk with ⟨fa1,hfa1,hk,hw⟩ | ⟨fa1,hfa1,hk,hw⟩
  ·obtain⟨hst,hk⟩:=zn hk (zl _ _)
   obtain⟨v,h',hk,hrun⟩:=yh hY hi hst hk (zl _ _)
   obtain⟨fr1,hk,hput⟩:=zP hfa1 hd hk
   obtain⟨fr2,h2,fa2,hk2,hfa2,hr2⟩:=zay hY hcall hsel r l2 fr1 h fa1 hl2 hfa1 hk
   refine⟨fr2,h2,fa2,hk2,hfa2,fun listed hB {DS} ρ0 ρ w a QQ hn hke hs0 ha hs hf hN hdf hp hq=>?_⟩
   have conv:∀ w,Sat E ρ0 hS w->Sat E ρ hS w:=fun w s=>y6 (ρ0:=ρ) (h:=hS) ⟨fun p o hp=>O.Is_agree E (fun i hi=>ha i hi) (s.bd p o hp).2 (by rw[ha p (s.bd p o hp).1];exact s.obj p o hp),
    fun p q o o' hp hq l1 l2 he=>s.inj p q o o' hp hq l1 l2 (by rw[<- ha p (s.bd p o hp).1,<- ha q (s.bd q o' hq).1];exact he),s.bd⟩ s (fun p o hp _=>hp) (fun p hp=>(ha p hp).symm)
   simp only[jo,Bool.and_eq_true,decide_eq_true_eq]at hB
   obtain⟨⟨⟨hlt,hfree⟩,hready⟩,hB⟩:=hB
   obtain⟨g1,g2,g3⟩:=hput ρ _ a hf hN (hrun E ρ _ a w hn hf (conv w hs0)).2
   refine wpAnyH_take (i:=i) ho hsel hfree hready (fun c a w hh=>absurd hh (hp c _ w)) (.inl ⟨hw ρ _ a hf,fun w' hw'=>(hrun E ρ _ a w' hn hf (conv w' hw')).1⟩) hs0 ?_
   exact hr2 _ hB ρ0 ρ w _ QQ hn hke hs0 ha hs g1 g2 (g3.trans hdf) hp hq
  ·obtain⟨fr1,hk,hput⟩:=z7 hd hk
   obtain⟨fr2,h2,fa2,hk2,hfa2,hr2⟩:=zay hY hcall hsel r l2 fr1 h fa1 hl2 hfa1 hk
   refine⟨fr2,h2,fa2,hk2,hfa2,fun listed hB {DS} ρ0 ρ w a QQ hn hke hs0 ha hs hf hN hdf hp hq=>?_⟩
   simp only[jo,Bool.and_eq_true,decide_eq_true_eq]at hB
   obtain⟨⟨⟨hlt,hfree⟩,hready⟩,hB⟩:=hB
   obtain⟨g1,g2,g3⟩:=hput E ρ h.n.toNat a hf hN (by trivial)
   refine wpAnyH_take (i:=i) ho hsel hfree hready (fun c a w hh=>absurd hh (hp c _ w)) (.inr ⟨hw ρ _ a hf,rfl⟩) hs0 ?_
   exact hr2 _ hB ρ0 ρ w _ QQ hn hke hs0 ha hs g1 g2 (g3.trans hdf) hp hq
 | (false,i)::r,l,fr,h,fa,hl,hfa,hk=>by
  obtain⟨o,x,l2,ho,hx,hl2,rfl⟩:=yf hl
  rw[zX,Array.getElem?_toList]at ho
  have hk:OI.go (hOp hS) (ziU hS) x g fr h fa (fun fr h fa=>z3 hS l2 g fr h fa k)=0:=hk
  obtain⟨d,gg,hd,hg,hxx⟩:=z8 hx
  have one:∀ fr1 h1 fa1,FaOk E fa1->o.guard=none->z3 hS l2 g fr1 h1 fa1 k=0 ->
    (∀ {DS:List Deferred} ρ w a QQ,(∀ p o,hS.t.get p=some o->p.toNat<hS.n.toNat)->hS.n.toNat<=h.n.toNat->yr hS h->Sat E ρ h w->zw E ρ h.n.toNat fr (a:Act).tmps->N<=a.tmps.size->a.defers=DS->o.wp P a w (fun a1 w1=>At E N DS ρ h w fr1 h1 a1 w1/\yr hS h1) QQ) ->
    ∃ fr' h' fa',k fr' h' fa'=0/\FaOk E fa'/\∀ listed,jo ops ((false,i)::r) listed=true->∀ {DS:List Deferred} ρ0 ρ w a QQ,hS.n.toNat<=h.n.toNat->yr hS h->Sat E ρ0 hS w->(∀ p:Ev.P,p.toNat<hS.n.toNat->ρ p=ρ0 p)->Sat E ρ h w->zw E ρ h.n.toNat fr (a:Act).tmps->N<=a.tmps.size->a.defers=DS ->
     (∀ c a w,¬ QQ (.panic c) a w)->(∀ a' w',At E N DS ρ h w fr' h' a' w'->QQ .normal a' w')->wpAnyH P .any ops QQ (Sat E ρ0 hS) ((false,i)::r).length listed a w:=by
   intro fr1 h1 fa1 hfa1 hgd hk1 hstep
   obtain⟨fr2,h2,fa2,hk2,hfa2,hr2⟩:=zay hY hcall hsel r l2 fr1 h1 fa1 hl2 hfa1 hk1
   refine⟨fr2,h2,fa2,hk2,hfa2,fun listed hB {DS} ρ0 ρ w a QQ hn hke hs0 ha hs hf hN hdf hp hq=>?_⟩
   simp only[jo,Bool.and_eq_true,decide_eq_true_eq]at hB
   obtain⟨⟨hlt,hready⟩,hB⟩:=hB
   refine wpAnyH_all hready (by simp) fun j hj=>?_
   have hj:j=i:=by simpa using hj
   subst hj
   unfold wpOp
   simp only[ho]
   rw[if_pos (by simp[Region.wanted,hgd])]
   refine .inl (jB ?_ (hstep ρ w a QQ (fun p o hp=>(hs0.bd p o hp).1) hn hke hs hf hN hdf))
   rintro a1 w1 ⟨⟨ρ1,f1,n1,d1,s1,x1⟩,hke1⟩
   have ha1:∀ p:Ev.P,p.toNat<hS.n.toNat->ρ1 p=ρ0 p:=fun p hp=>by rw[x1.agree p (by omega),ha p hp]
   have hs1:Sat E ρ0 hS w1:=y6 hs0 s1 hke1 ha1
   exact⟨hs1,hr2 _ hB ρ0 ρ1 w1 a1 QQ (Nat.le_trans hn x1.len) hke1 hs1 ha1 s1 f1 n1 d1 hp (fun a' w' hA=>hq a' w' (hA.trans x1))⟩
  rcases hxx with ⟨ii,hi,rfl⟩ | ⟨cl,f0,f,ll,hop,hcal,hf0,hll,rfl⟩
  ·have hk:oc gg (fun _=>err g 60) (bc (zad ii fr hS) (evI ii fr h (fun v h=>yI d fa v fr (fun fr=>z3 hS l2 g fr h fa k)) (err g (yu ii))) (bc (zN ii) (evI ii fr h (fun v _=>yI d fa v fr (fun fr=>z3 hS l2 g fr h fa k)) (err g (yu ii))) (err g 61)))=0:=hk
   cases gg with
   | some gg=>exact absurd (show err g 60=0 from hk) (zl _ _)
   | none=>
    have hk:bc (zad ii fr hS) (evI ii fr h (fun v h=>yI d fa v fr (fun fr=>z3 hS l2 g fr h fa k)) (err g (yu ii))) (bc (zN ii) (evI ii fr h (fun v _=>yI d fa v fr (fun fr=>z3 hS l2 g fr h fa k)) (err g (yu ii))) (err g 61))=0:=hk
    cases hmk:zad ii fr hS with
    | false=>
     rw[hmk]at hk
     obtain⟨hst,hk⟩:=zn (show bc (zN ii) _ _=0 from hk) (zl _ _)
     obtain⟨v,_,hk,hrun⟩:=yh hY hi hst hk (zl _ _)
     obtain⟨fr1,hk,hput⟩:=zP hfa hd hk
     refine one fr1 h fa hfa (yx hg) hk fun {DS} ρ w a QQ hbd hn hke hs hf hN hdf=>?_
     obtain⟨q1,q2⟩:=hrun E ρ _ a w (Nat.le_refl _) hf hs
     obtain⟨g1,g2,g3⟩:=hput ρ _ a hf hN q2
     unfold Oper.wp
     rw[q1]
     exact⟨⟨ρ,g1,g2,g3.trans hdf,hs,hs.refl E⟩,hke⟩
    | true=>
    rw[hmk]at hk
    have hk:evI ii fr h (fun v h=>yI d fa v fr (fun fr=>z3 hS l2 g fr h fa k)) (err g (yu ii))=0:=hk
    obtain⟨v,h1,hk,hrun,hkeep⟩:=zaQ hY hi hmk hk (zl _ _)
    obtain⟨fr1,hk,hput⟩:=zP hfa hd hk
    refine one fr1 h1 fa hfa (yx hg) hk fun {DS} ρ w a QQ hbd hn hke hs hf hN hdf=>?_
    obtain⟨ρ',w',nx,hr,hnx,hs',hx',hb⟩:=hrun E ρ a w hf hs
    obtain⟨g1,g2,g3⟩:=hput ρ' _ a (hf.mono hx'.len hx'.agree) hN hb
    unfold Oper.wp
    rw[hr]
    have hgo:At E N DS ρ h w fr1 h1 (a.put o.dst (v.γ E ρ')) w'/\yr hS h1:=⟨⟨ρ',g1,g2,g3.trans hdf,hs',hx'⟩,hkeep hbd hn hke⟩
    rcases hnx with rfl | ⟨rfl,rfl⟩
    ·exact hgo
    ·exact hgo
  ·have hk:oc gg (fun _=>err g 62) (hc h (fun n lo t=>hc hS (fun m _ _=>bc (pLe lo m) (jU f ll g fr ⟨n,m,t⟩ fa (fun v h' fa=>hc h' (fun n' _ t'=>jC d v fr (fun fr=>z3 hS l2 g fr ⟨n',lo,t'⟩ fa k)))) (err g 65))))=0:=hk
   cases gg with
   | some gg=>exact absurd (show err g 62=0 from hk) (zl _ _)
   | none=>
    have hk:hc h (fun n lo t=>hc hS (fun m _ _=>bc (pLe lo m) (jU f ll g fr ⟨n,m,t⟩ fa (fun v h' fa=>hc h' (fun n' _ t'=>jC d v fr (fun fr=>z3 hS l2 g fr ⟨n',lo,t'⟩ fa k)))) (err g 65)))=0:=hk
    rw[jX,jX]at hk
    obtain⟨hlo,hk⟩:=zn hk (zl _ _)
    have hlo:h.lo.toNat<=hS.n.toNat:=by simpa [pLe] using hlo
    obtain⟨F,vl,v,h1,fa1,hk,hfa1,hr,hdo⟩:=jY hop hcal hf0 hll hcall hfa hk
    rw[jX]at hk
    obtain⟨fr1,hk,hput⟩:=z7 hd hk
    refine one fr1 ⟨h1.n,h.lo,h1.t⟩ fa1 hfa1 (yx hg) hk fun {DS} ρ w a QQ hbd hn hke hs hf hN hdf=>?_
    obtain⟨hvb,hex⟩:=hr ρ _ a hf
    unfold Oper.wp
    rw[hex,Oper.upon_enter]
    refine(hdo ρ w hvb ⟨hs.obj,hs.inj,hs.bd⟩).mono ?_
    rintro e w' ⟨ρ',rfl,hs',hx',hb⟩
    have hx2:Ext ρ h w ρ' ⟨h1.n,h.lo,h1.t⟩ w':=by
     refine⟨hx'.len,rfl,hx'.agree,fun p o hp hg hl=>?_,hx'.os,hx'.tape,hx'.output,hx'.size,fun b hb hno=>hx'.keep b hb fun p o hp hl hlo2=>hno p o hp hl (Nat.le_trans hlo hlo2),fun p hp hq=>hx'.old p (Nat.lt_of_lt_of_le hp hlo) hq,hx'.liv⟩
     rcases hx'.new p o hp hg hl with h3 | ⟨q,o',h3,h4,h5,h6⟩
     ·exact .inl h3
     ·exact .inr ⟨q,o',h3,h4,Nat.le_trans hlo h5,h6⟩
    obtain⟨g1,g2,g3⟩:=hput E ρ' _ a (hf.mono hx2.len hx2.agree) hN hb
    refine⟨⟨ρ',g1,g2,g3.trans hdf,⟨hs'.obj,hs'.inj,hs'.bd⟩,hx2⟩,fun p o hp hl=>?_⟩
    have hpS:=hbd p o hp
    have:=hx'.old p hpS (show p.toNat<h.n.toNat by omega)
    show h1.t.get p=some o
    rw[this];exact hke p o hp hl
theorem zbO {Y:Ty} (hY:TyOk P Y) {g:Ctx} (hcall:zi E P g.call) {ops:Array Oper} (hsel:Region.noSelect ops=true) {D tl:List Nat} (hrest:EvQ.restOk ops D=true) {hS:H} {k:K1}:∀ (ord:List (Bool × Nat)) (l:List (Bool × OI)) (fr:Fr) (h:H) (fa:Fa),
  zZ Y N ops.toList ord=some l->FaOk E fa->z3 hS l g fr h fa k=0 ->
  ∃ fr' h' fa',k fr' h' fa'=0/\FaOk E fa'/\∀ listed,jv ops D tl ord listed=true->EvQ.Closed ops listed->∀ {DS:List Deferred} ρ0 ρ w a QQ,hS.n.toNat<=h.n.toNat->yr hS h->Sat E ρ0 hS w->(∀ p:Ev.P,p.toNat<hS.n.toNat->ρ p=ρ0 p)->Sat E ρ h w->zw E ρ h.n.toNat fr (a:Act).tmps->N<=a.tmps.size->a.defers=DS ->
   (∀ c a w,¬ QQ (.panic c) a w)->(∀ a' w' listed',At E N DS ρ h w fr' h' a' w'->jV ops tl listed'=true->wpAny P .any ops QQ tl.length listed' a' w')->EvQ.wpAnyT P ops QQ (Sat E ρ0 hS) D (tl.length+ord.length) listed a w
 | [],l,fr,h,fa,hl,hfa,hk=>by
  simp[zZ]at hl;subst hl
  exact⟨fr,h,fa,hk,hfa,fun listed hB hcl {DS} ρ0 ρ w a QQ hn hke hs0 ha hs hf hN hd hp hq=>by
   simp only[jv,Bool.and_eq_true]at hB
   exact EvQ.T_done hB.1 (hq a w listed ⟨ρ,hf,hN,hd,hs,hs.refl E⟩ hB.2)⟩
 | (true,i)::r,l,fr,h,fa,hl,hfa,hk=>by
  obtain⟨o,x,l2,ho,hx,hl2,rfl⟩:=yf hl
  rw[zX,Array.getElem?_toList]at ho
  have hk:OI.go qOp hNo x g fr hS fa (fun fr _ fa=>z3 hS l2 g fr h fa k)=0:=hk
  obtain⟨d,gg,hd,hg,hxx⟩:=z8 hx
  rcases hxx with ⟨ii,hi,rfl⟩ | ⟨cl,f0,f,ll,hop,hcal,hf0,hll,rfl⟩
  rotate_left
  ·exact absurd (show err g 63=0 from hk) (zl _ _)
  have hk:qOp d gg ii g fr hS fa (fun fr _ fa=>z3 hS l2 g fr h fa k)=0:=hk
  rcases yE hg hfa hk with ⟨fa1,hfa1,hk,hw⟩ | ⟨fa1,hfa1,hk,hw⟩
  ·obtain⟨hst,hk⟩:=zn hk (zl _ _)
   obtain⟨v,h',hk,hrun⟩:=yh hY hi hst hk (zl _ _)
   obtain⟨fr1,hk,hput⟩:=zP hfa1 hd hk
   obtain⟨fr2,h2,fa2,hk2,hfa2,hr2⟩:=zbO hY hcall hsel hrest r l2 fr1 h fa1 hl2 hfa1 hk
   refine⟨fr2,h2,fa2,hk2,hfa2,fun listed hB hcl {DS} ρ0 ρ w a QQ hn hke hs0 ha hs hf hN hdf hp hq=>?_⟩
   have conv:∀ w,Sat E ρ0 hS w->Sat E ρ hS w:=fun w s=>y6 (ρ0:=ρ) (h:=hS) ⟨fun p o hp=>O.Is_agree E (fun i hi=>ha i hi) (s.bd p o hp).2 (by rw[ha p (s.bd p o hp).1];exact s.obj p o hp),
    fun p q o o' hp hq l1 l2 he=>s.inj p q o o' hp hq l1 l2 (by rw[<- ha p (s.bd p o hp).1,<- ha q (s.bd q o' hq).1];exact he),s.bd⟩ s (fun p o hp _=>hp) (fun p hp=>(ha p hp).symm)
   simp only[jv,Bool.and_eq_true,decide_eq_true_eq]at hB
   obtain⟨⟨⟨⟨hD,hlt⟩,hfree⟩,hready⟩,hB⟩:=hB
   obtain⟨g1,g2,g3⟩:=hput ρ _ a hf hN (hrun E ρ _ a w hn hf (conv w hs0)).2
   refine EvQ.T_take hrest hcl (i:=i) ho (by simpa using hD) hsel hfree hready (fun c a w hh=>absurd hh (hp c _ w)) (.inl ⟨hw ρ _ a hf,fun w' hw'=>(hrun E ρ _ a w' hn hf (conv w' hw')).1⟩) hs0 ?_
   exact hr2 _ hB (hcl.add (by simpa using hready)) ρ0 ρ w _ QQ hn hke hs0 ha hs g1 g2 (g3.trans hdf) hp hq
  ·obtain⟨fr1,hk,hput⟩:=z7 hd hk
   obtain⟨fr2,h2,fa2,hk2,hfa2,hr2⟩:=zbO hY hcall hsel hrest r l2 fr1 h fa1 hl2 hfa1 hk
   refine⟨fr2,h2,fa2,hk2,hfa2,fun listed hB hcl {DS} ρ0 ρ w a QQ hn hke hs0 ha hs hf hN hdf hp hq=>?_⟩
   simp only[jv,Bool.and_eq_true,decide_eq_true_eq]at hB
   obtain⟨⟨⟨⟨hD,hlt⟩,hfree⟩,hready⟩,hB⟩:=hB
   obtain⟨g1,g2,g3⟩:=hput E ρ h.n.toNat a hf hN (by trivial)
   refine EvQ.T_take hrest hcl (i:=i) ho (by simpa using hD) hsel hfree hready (fun c a w hh=>absurd hh (hp c _ w)) (.inr ⟨hw ρ _ a hf,rfl⟩) hs0 ?_
   exact hr2 _ hB (hcl.add (by simpa using hready)) ρ0 ρ w _ QQ hn hke hs0 ha hs g1 g2 (g3.trans hdf) hp hq
 | (false,i)::r,l,fr,h,fa,hl,hfa,hk=>by
  obtain⟨o,x,l2,ho,hx,hl2,rfl⟩:=yf hl
  rw[zX,Array.getElem?_toList]at ho
  have hk:OI.go (hOp hS) (ziU hS) x g fr h fa (fun fr h fa=>z3 hS l2 g fr h fa k)=0:=hk
  obtain⟨d,gg,hd,hg,hxx⟩:=z8 hx
  have one:∀ fr1 h1 fa1,FaOk E fa1->o.guard=none->z3 hS l2 g fr1 h1 fa1 k=0 ->
    (∀ {DS:List Deferred} ρ w a QQ,(∀ p o,hS.t.get p=some o->p.toNat<hS.n.toNat)->hS.n.toNat<=h.n.toNat->yr hS h->Sat E ρ h w->zw E ρ h.n.toNat fr (a:Act).tmps->N<=a.tmps.size->a.defers=DS->o.wp P a w (fun a1 w1=>At E N DS ρ h w fr1 h1 a1 w1/\yr hS h1) QQ) ->
    ∃ fr' h' fa',k fr' h' fa'=0/\FaOk E fa'/\∀ listed,jv ops D tl ((false,i)::r) listed=true->EvQ.Closed ops listed->∀ {DS:List Deferred} ρ0 ρ w a QQ,hS.n.toNat<=h.n.toNat->yr hS h->Sat E ρ0 hS w->(∀ p:Ev.P,p.toNat<hS.n.toNat->ρ p=ρ0 p)->Sat E ρ h w->zw E ρ h.n.toNat fr (a:Act).tmps->N<=a.tmps.size->a.defers=DS ->
     (∀ c a w,¬ QQ (.panic c) a w)->(∀ a' w' listed',At E N DS ρ h w fr' h' a' w'->jV ops tl listed'=true->wpAny P .any ops QQ tl.length listed' a' w')->EvQ.wpAnyT P ops QQ (Sat E ρ0 hS) D (tl.length+((false,i)::r).length) listed a w:=by
   intro fr1 h1 fa1 hfa1 hgd hk1 hstep
   obtain⟨fr2,h2,fa2,hk2,hfa2,hr2⟩:=zbO hY hcall hsel hrest r l2 fr1 h1 fa1 hl2 hfa1 hk1
   refine⟨fr2,h2,fa2,hk2,hfa2,fun listed hB hcl {DS} ρ0 ρ w a QQ hn hke hs0 ha hs hf hN hdf hp hq=>?_⟩
   simp only[jv,Bool.and_eq_true,decide_eq_true_eq]at hB
   obtain⟨⟨⟨hD,hlt⟩,hready⟩,hB⟩:=hB
   refine EvQ.T_one (i:=i) (by simpa using hD) hready ?_
   unfold wpOp
   simp only[ho]
   rw[if_pos (by simp[Region.wanted,hgd])]
   refine .inl (jB ?_ (hstep ρ w a QQ (fun p o hp=>(hs0.bd p o hp).1) hn hke hs hf hN hdf))
   rintro a1 w1 ⟨⟨ρ1,f1,n1,d1,s1,x1⟩,hke1⟩
   have ha1:∀ p:Ev.P,p.toNat<hS.n.toNat->ρ1 p=ρ0 p:=fun p hp=>by rw[x1.agree p (by omega),ha p hp]
   have hs1:Sat E ρ0 hS w1:=y6 hs0 s1 hke1 ha1
   exact⟨hs1,hr2 _ hB (hcl.add (by rw[hready];simp)) ρ0 ρ1 w1 a1 QQ (Nat.le_trans hn x1.len) hke1 hs1 ha1 s1 f1 n1 d1 hp (fun a' w' L' hA=>hq a' w' L' (hA.trans x1))⟩
  rcases hxx with ⟨ii,hi,rfl⟩ | ⟨cl,f0,f,ll,hop,hcal,hf0,hll,rfl⟩
  ·have hk:oc gg (fun _=>err g 60) (bc (zad ii fr hS) (evI ii fr h (fun v h=>yI d fa v fr (fun fr=>z3 hS l2 g fr h fa k)) (err g (yu ii))) (bc (zN ii) (evI ii fr h (fun v _=>yI d fa v fr (fun fr=>z3 hS l2 g fr h fa k)) (err g (yu ii))) (err g 61)))=0:=hk
   cases gg with
   | some gg=>exact absurd (show err g 60=0 from hk) (zl _ _)
   | none=>
    have hk:bc (zad ii fr hS) (evI ii fr h (fun v h=>yI d fa v fr (fun fr=>z3 hS l2 g fr h fa k)) (err g (yu ii))) (bc (zN ii) (evI ii fr h (fun v _=>yI d fa v fr (fun fr=>z3 hS l2 g fr h fa k)) (err g (yu ii))) (err g 61))=0:=hk
    cases hmk:zad ii fr hS with
    | false=>
     rw[hmk]at hk
     obtain⟨hst,hk⟩:=zn (show bc (zN ii) _ _=0 from hk) (zl _ _)
     obtain⟨v,_,hk,hrun⟩:=yh hY hi hst hk (zl _ _)
     obtain⟨fr1,hk,hput⟩:=zP hfa hd hk
     refine one fr1 h fa hfa (yx hg) hk fun {DS} ρ w a QQ hbd hn hke hs hf hN hdf=>?_
     obtain⟨q1,q2⟩:=hrun E ρ _ a w (Nat.le_refl _) hf hs
     obtain⟨g1,g2,g3⟩:=hput ρ _ a hf hN q2
     unfold Oper.wp
     rw[q1]
     exact⟨⟨ρ,g1,g2,g3.trans hdf,hs,hs.refl E⟩,hke⟩
    | true=>
    rw[hmk]at hk
    have hk:evI ii fr h (fun v h=>yI d fa v fr (fun fr=>z3 hS l2 g fr h fa k)) (err g (yu ii))=0:=hk
    obtain⟨v,h1,hk,hrun,hkeep⟩:=zaQ hY hi hmk hk (zl _ _)
    obtain⟨fr1,hk,hput⟩:=zP hfa hd hk
    refine one fr1 h1 fa hfa (yx hg) hk fun {DS} ρ w a QQ hbd hn hke hs hf hN hdf=>?_
    obtain⟨ρ',w',nx,hr,hnx,hs',hx',hb⟩:=hrun E ρ a w hf hs
    obtain⟨g1,g2,g3⟩:=hput ρ' _ a (hf.mono hx'.len hx'.agree) hN hb
    unfold Oper.wp
    rw[hr]
    have hgo:At E N DS ρ h w fr1 h1 (a.put o.dst (v.γ E ρ')) w'/\yr hS h1:=⟨⟨ρ',g1,g2,g3.trans hdf,hs',hx'⟩,hkeep hbd hn hke⟩
    rcases hnx with rfl | ⟨rfl,rfl⟩
    ·exact hgo
    ·exact hgo
  ·have hk:oc gg (fun _=>err g 62) (hc h (fun n lo t=>hc hS (fun m _ _=>bc (pLe lo m) (jU f ll g fr ⟨n,m,t⟩ fa (fun v h' fa=>hc h' (fun n' _ t'=>jC d v fr (fun fr=>z3 hS l2 g fr ⟨n',lo,t'⟩ fa k)))) (err g 65))))=0:=hk
   cases gg with
   | some gg=>exact absurd (show err g 62=0 from hk) (zl _ _)
   | none=>
    have hk:hc h (fun n lo t=>hc hS (fun m _ _=>bc (pLe lo m) (jU f ll g fr ⟨n,m,t⟩ fa (fun v h' fa=>hc h' (fun n' _ t'=>jC d v fr (fun fr=>z3 hS l2 g fr ⟨n',lo,t'⟩ fa k)))) (err g 65)))=0:=hk
    rw[jX,jX]at hk
    obtain⟨hlo,hk⟩:=zn hk (zl _ _)
    have hlo:h.lo.toNat<=hS.n.toNat:=by simpa [pLe] using hlo
    obtain⟨F,vl,v,h1,fa1,hk,hfa1,hr,hdo⟩:=jY hop hcal hf0 hll hcall hfa hk
    rw[jX]at hk
    obtain⟨fr1,hk,hput⟩:=z7 hd hk
    refine one fr1 ⟨h1.n,h.lo,h1.t⟩ fa1 hfa1 (yx hg) hk fun {DS} ρ w a QQ hbd hn hke hs hf hN hdf=>?_
    obtain⟨hvb,hex⟩:=hr ρ _ a hf
    unfold Oper.wp
    rw[hex,Oper.upon_enter]
    refine(hdo ρ w hvb ⟨hs.obj,hs.inj,hs.bd⟩).mono ?_
    rintro e w' ⟨ρ',rfl,hs',hx',hb⟩
    have hx2:Ext ρ h w ρ' ⟨h1.n,h.lo,h1.t⟩ w':=by
     refine⟨hx'.len,rfl,hx'.agree,fun p o hp hg hl=>?_,hx'.os,hx'.tape,hx'.output,hx'.size,fun b hb hno=>hx'.keep b hb fun p o hp hl hlo2=>hno p o hp hl (Nat.le_trans hlo hlo2),fun p hp hq=>hx'.old p (Nat.lt_of_lt_of_le hp hlo) hq,hx'.liv⟩
     rcases hx'.new p o hp hg hl with h3 | ⟨q,o',h3,h4,h5,h6⟩
     ·exact .inl h3
     ·exact .inr ⟨q,o',h3,h4,Nat.le_trans hlo h5,h6⟩
    obtain⟨g1,g2,g3⟩:=hput E ρ' _ a (hf.mono hx2.len hx2.agree) hN hb
    refine⟨⟨ρ',g1,g2,g3.trans hdf,⟨hs'.obj,hs'.inj,hs'.bd⟩,hx2⟩,fun p o hp hl=>?_⟩
    have hpS:=hbd p o hp
    have:=hx'.old p hpS (show p.toNat<h.n.toNat by omega)
    show h1.t.get p=some o
    rw[this];exact hke p o hp hl
theorem zaW {Y:Ty} (hY:TyOk P Y) {g:Ctx} (hcall:zi E P g.call) {ops:Array Oper} {k:K1}:∀ (tl:List Nat) (l':List OI) (fr:Fr) (h:H) (fa:Fa),zY Y N ops.toList (yW ops.toList tl)=some l'->FaOk E fa->zaM l' g fr h fa k=0 ->
  ∃ fr' h' fa',k fr' h' fa'=0/\FaOk E fa'/\∀ listed,jV ops tl listed=true->∀ {DS:List Deferred} ρ w a QQ,Sat E ρ h w->zw E ρ h.n.toNat fr (a:Act).tmps->N<=a.tmps.size->a.defers=DS->(∀ a' w',At E N DS ρ h w fr' h' a' w'->QQ .normal a' w')->wpAny P .any ops QQ tl.length listed a w
 | [],l',fr,h,fa,hl,hfa,hk=>by
  simp[yW,zY]at hl;subst hl
  exact⟨fr,h,fa,hk,hfa,fun listed hB {DS} ρ w a QQ hs hf hN hd hq=>wpAny_done (by simpa [jV] using hB) (hq a w ⟨ρ,hf,hN,hd,hs,hs.refl E⟩) _⟩
 | i::r,l',fr,h,fa,hl,hfa,hk=>by
  cases ho:nth ops.toList i with
  | none=>
   simp only[yW,ho]at hl
   obtain⟨fr2,h2',fa2,hk2,hfa2,_⟩:=zaW hY hcall r l' fr h fa hl hfa hk
   refine⟨fr2,h2',fa2,hk2,hfa2,fun listed hB=>?_⟩
   simp only[jV,Bool.and_eq_true,decide_eq_true_eq]at hB
   rw[zX,Array.getElem?_toList]at ho
   have:=hB.1.1
   simp[this]at ho
  | some o=>
   simp only[yW,ho]at hl
   rw[zX,Array.getElem?_toList]at ho
   obtain⟨x,l2,hx,hl2,rfl⟩:=zaj hl
   have hk:OI.go zam jd x g fr h fa (fun fr h fa=>zaM l2 g fr h fa k)=0:=hk
   obtain⟨fr1,h1,fa1,hk1,hfa1,hone⟩:=zaF hY hx hcall hfa hk
   obtain⟨fr2,h2',fa2,hk2,hfa2,h3⟩:=zaW hY hcall r l2 fr1 h1 fa1 hl2 hfa1 hk1
   refine⟨fr2,h2',fa2,hk2,hfa2,fun listed hB {DS} ρ w a QQ hs hf hN hd hq=>?_⟩
   simp only[jV,Bool.and_eq_true,decide_eq_true_eq]at hB
   obtain⟨⟨hlt,hready⟩,hB⟩:=hB
   have next:∀ a1 w1,At E N DS ρ h w fr1 h1 a1 w1->wpAny P .any ops QQ r.length (listed.setIfInBounds i true) a1 w1:=by
    rintro a1 w1 ⟨ρ1,f1,n1,d1,s1,x1⟩
    exact h3 _ hB ρ1 w1 a1 QQ s1 f1 n1 d1 (fun a' w' hA=>hq a' w' (hA.trans x1))
   refine wpAny_all hready (by simp) fun j hj=>?_
   have hj:j=i:=by simpa using hj
   subst hj
   unfold wpOp
   simp only[ho]
   rcases hone ρ w a QQ hs hf hN hd with ⟨hw,hwp⟩ | ⟨hw,hA⟩
   ·rw[if_pos hw]
    exact .inl (jB next hwp)
   ·rw[if_neg (by simp[hw])]
    exact next _ _ hA
theorem zxX {Y:Ty} (hY:TyOk P Y) (hm:P.follows .mixedOrders=true) {g:Ctx} (hcall:zi E P g.call) {id:Nat} {ops:Array Oper} {bs:List Nat} {ord:List (Bool × Nat)} {tl:List Nat} (hB:zd6 ops ord tl=true)
  {l:List (Bool × OI)} (hl:zZ Y N ops.toList ord=some l) {t:List OI} (ht:zY Y N ops.toList (yW ops.toList tl)=some t) {fr:Fr} {h:H} {fa:Fa} {k:K2} (hfa:FaOk E fa)
  (hk:jp (.seq (.hops (bs.map zp) l) (.ops t)) g fr h fa k=0):zeB E P N (.region id ops true) fr h k:=by
 simp only[zd6,Bool.and_eq_true,decide_eq_true_eq]at hB
 obtain⟨⟨⟨hsel,hlen⟩,hrest⟩,hgo⟩:=hB
 have hk:zcN fr (err g 64) (bs.map zp) h (fun hS=>z3 hS l g fr h fa (fun fr h fa=>zaM t g fr h fa (fun fr h fa=>k .normal fr h fa)))=0:=hk
 obtain⟨hS,hk,hSn,hke,hSat⟩:=za8 (zl _ _) bs h _ hk
 obtain⟨fr1,h1,fa1,hk1,hfa1,hr⟩:=zbO hY hcall hsel (tl:=tl) hrest ord l fr h fa hl hfa hk
 obtain⟨fr2,h2,fa2,hk2,hfa2,hc⟩:=zaW hY hcall tl t fr1 h1 fa1 ht hfa1 hk1
 refine⟨.normal,fr2,h2,fa2,hk2,hfa2,fun {DS} ρ w a QQ hs hf hN hd hQ=>?_⟩
 have hs1:Sat E ρ h { w with drawn:=w.drawn+1 }:=⟨hs.obj,hs.inj,hs.bd⟩
 have hx1:Ext ρ h w ρ h { w with drawn:=w.drawn+1 }:=jG hs
 refine Go.wp_mono (Q:=fun e a' w'=>e=.normal/\At E N DS ρ h w fr2 h2 a' w') (EvQ.wp_region_T (S:=Sat E ρ hS) (D:=ord.map (·.2)) hm ?_) (fun e a' w' ⟨he,hA⟩=>by rw[he];exact hQ a' w' hA)
 have key:=hr _ hgo (EvQ.Closed.none _) ρ ρ _ a (fun e a' w'=>e=.normal/\At E N DS ρ h w fr2 h2 a' w') (by rw[hSn];exact Nat.le_refl _) hke (hSat E ρ _ _ hf hs1) (fun _ _=>rfl) hs1 hf hN hd (fun c a w hh=>(by cases hh.1)) (by
  rintro a' w' L ⟨ρ1,f1,n1,d1,s1,x1⟩ hch
  exact hc L hch ρ1 w' a' _ s1 f1 n1 d1 (fun a2 w2 hA=>⟨rfl,(hA.trans x1).trans hx1⟩))
 rw[show tl.length+ord.length=ops.size by omega]at key
 exact key
theorem zAN {Y:Ty} (hY:TyOk P Y) (hm:P.follows .mixedOrders=true) {g:Ctx} (hcall:zi E P g.call) {id:Nat} {ops:Array Oper} {bs:List Nat} {ord:List (Bool × Nat)} (hB:ziT ops ord=true)
  {l:List (Bool × OI)} (hl:zZ Y N ops.toList ord=some l) {fr:Fr} {h:H} {fa:Fa} {k:K2} (hfa:FaOk E fa) (hk:cHops (bs.map zp) l g fr h fa k=0):zeB E P N (.region id ops true) fr h k:=by
 simp only[ziT,Bool.and_eq_true,decide_eq_true_eq]at hB
 obtain⟨⟨hsel,hlen⟩,hgo⟩:=hB
 obtain⟨hS,hk,hSn,hke,hSat⟩:=za8 (zl _ _) bs h _ hk
 obtain⟨fr1,h1,fa1,hk1,hfa1,hr⟩:=zay hY hcall hsel ord l fr h fa hl hfa hk
 refine⟨.normal,fr1,h1,fa1,hk1,hfa1,fun {DS} ρ w a QQ hs hf hN hd hQ=>?_⟩
 have hs1:Sat E ρ h { w with drawn:=w.drawn+1 }:=⟨hs.obj,hs.inj,hs.bd⟩
 have hx1:Ext ρ h w ρ h { w with drawn:=w.drawn+1 }:=jG hs
 refine Go.wp_mono (Q:=fun e a' w'=>e=.normal/\At E N DS ρ h w fr1 h1 a' w') (wp_region_held (S:=Sat E ρ hS) hm ?_) (fun e a' w' ⟨he,hA⟩=>by rw[he];exact hQ a' w' hA)
 have key:=hr _ hgo ρ ρ _ a (fun e a' w'=>e=.normal/\At E N DS ρ h w fr1 h1 a' w') (by rw[hSn];exact Nat.le_refl _) hke (hSat E ρ _ _ hf hs1) (fun _ _=>rfl) hs1 hf hN hd (fun c a w hh=>(by cases hh.1)) (fun a' w' hA=>⟨rfl,hA.trans hx1⟩)
 rw[hlen]at key
 exact key
theorem zf4 {id:Nat} {ops:Array Oper} {Q:Exit->Act->World->Prop} {C:World->Prop} {a:Act} {w:World} (n:Nat) (ord:List (Bool × Nat)) (hm:P.follows .mixedOrders=true) (hB:mixB ops n ord=true) (hC:C { w with drawn:=w.drawn+1 })
  (h:wpQuiet P ops C (fun a'=>∀ w' listed,C w'->jo ops ord listed=true->wpAny P .any ops Q ord.length listed a' w') (ops.toList.take n) a):(Code.region id ops true).wp P Q a w:=by
 simp only[mixB,Bool.and_eq_true,decide_eq_true_eq]at hB
 obtain⟨⟨⟨⟨⟨hsel,hn⟩,hs⟩,hc⟩,hsz⟩,hlex⟩:=hB
 have hlen:(ops.toList.take n).length=n:=by simp;omega
 have inv:HeadInv .any ops n (Array.replicate ops.size false):=
  ⟨by simp,fun j oj _ hl=>by rw[getD_replicate_false]at hl;simp at hl,fun t _ ht=>getD_in (by simpa using ht) (getD_replicate_false _ _)⟩
 have h1:=EvQ.headQ_lexF (P:=P) (C:=C) (md:=.any) (n:=n) (F:=mixG ops n ord)
  (fun listed hF j hj=>by
   simp only[mixG,Bool.and_eq_true,List.all_eq_true,decide_eq_true_eq]at hF
   exact hF.1 j hj)
  hsel (fun listed inv i hi hun t ht=>EvQ.tailB_waits hs hc hn inv _ i rfl hi hun t ht) (ops.toList.take n) 0 _ a (fun j hj=>by
  have hj:j<n:=by omega
  simp[List.getElem?_take,hj]) (by simpa using hlen) inv (by rw[hlen];exact hlex) h
 rw[hlen]at h1
 refine wp_region_any hm ?_
 rw[show wpAny P .any ops Q ops.size=wpAny P .any ops Q (n+ord.length) from by rw[hsz]]
 refine EvQ.headQ_any (C:=C) (fun listed a' w' hw' hL=>?_) n _ a _ hC h1
 obtain⟨⟨hF,_⟩,hK⟩:=hL
 simp only[mixG,Bool.and_eq_true]at hF
 exact hK w' listed hw' hF.2
theorem mix_run {Y:Ty} (hY:TyOk P Y) (hm:P.follows .mixedOrders=true) {g:Ctx} (hcall:zi E P g.call) {id:Nat} {ops:Array Oper} {n:Nat} {bs:List Nat} {ord:List (Bool × Nat)} (hB:mixB ops n ord=true)
  {hd:List OI} (hhd:zY Y N ops.toList (ops.toList.take n)=some hd) {l:List (Bool × OI)} (hl:zZ Y N ops.toList ord=some l) {fr:Fr} {h:H} {fa:Fa} {k:K2} (hfa:FaOk E fa)
  (hk:zdp hd g fr h fa (fun fr h fa=>cHops (bs.map zp) l g fr h fa k)=0):zeB E P N (.region id ops true) fr h k:=by
 obtain⟨fr0,fa0,hk,hfa0,hq⟩:=zaU hY hcall _ _ fr fa hhd hfa hk
 obtain⟨hS,hk,hSn,hke,hSat⟩:=za8 (zl _ _) bs h _ hk
 have hsel:Region.noSelect ops=true:=by
  simp only[mixB,Bool.and_eq_true]at hB;exact hB.1.1.1.1.1
 obtain⟨fr1,h1,fa1,hk1,hfa1,hr⟩:=zay hY hcall hsel ord l fr0 h fa0 hl hfa0 hk
 refine⟨.normal,fr1,h1,fa1,hk1,hfa1,fun {DS} ρ w a QQ hs hf hN hd hQ=>?_⟩
 have hs1:=zdl hs
 have hC1:Cls E ρ h w.drew { w with drawn:=w.drawn+1 }:=⟨hs1,hs1.refl E⟩
 refine Go.wp_mono (Q:=fun e a' w'=>e=.normal/\At E N DS ρ h w fr1 h1 a' w') (zf4 n ord hm hB hC1 ?_) (fun e a' w' ⟨he,hA⟩=>by rw[he];exact hQ a' w' hA)
 refine hq ρ w.drew a _ hs1 hf hN hd fun a2 f2 n2 d2 w2 listed hw2 hgo=>wpAny_of_held (S:=Sat E ρ hS) _ _ _ _ ?_
 exact hr listed hgo ρ ρ w2 a2 (fun e a' w'=>e=.normal/\At E N DS ρ h w fr1 h1 a' w') (by rw[hSn];exact Nat.le_refl _) hke (hSat E ρ _ _ f2 hw2.1) (fun _ _=>rfl) hw2.1 f2 n2 d2 (fun c a w hh=>(by cases hh.1)) (fun a' w' hA=>⟨rfl,hA.trans ((jG hs).trans hw2.2)⟩)
theorem zyK {Y:Ty} (hY:TyOk P Y) (hm:P.follows .mixedOrders=true) {g:Ctx} (hcall:zi E P g.call) {id:Nat} {ops:Array Oper} {m:Nat} {tl:List Nat} (hB:zfc ops m tl=true)
  {hd t:List OI} (h1:zY Y N ops.toList (ops.toList.take m)=some hd) (h2:zY Y N ops.toList (EvQ.pick ops tl)=some t) (hno:tl=[]->ops.size<=m)
  {fr:Fr} {h:H} {fa:Fa} {k:K2} (hfa:FaOk E fa) (hk:zdp hd g fr h fa (fun fr h fa=>zaM t g fr h fa (fun fr h fa=>k .normal fr h fa))=0):zeB E P N (.region id ops true) fr h k:=by
 obtain⟨fr1,fa1,hk1,hfa1,hq⟩:=zaU hY hcall _ _ fr fa h1 hfa hk
 obtain⟨fr2,h2',fa2,hk2,hfa2,ho⟩:=zdv hY hcall _ _ fr1 h fa1 h2 hfa1 hk1
 refine⟨.normal,fr2,h2',fa2,hk2,hfa2,fun {DS} ρ w a QQ hs hf hN hd hQ=>?_⟩
 have hs1:=zdl hs
 have hC1:Cls E ρ h w.drew { w with drawn:=w.drawn+1 }:=⟨hs1,hs1.refl E⟩
 have fin:∀ a',zw E ρ h.n.toNat fr1 (a':Act).tmps->N<=a'.tmps.size->a'.defers=DS->∀ w',Cls E ρ h w.drew w'->wpList P ops QQ (EvQ.pick ops tl) a' w':=by
  intro a' hf' hN' hd' w' hw'
  refine ho ρ w' a' QQ hw'.1 hf' hN' hd' (fun a2 w2 hA=>hQ a2 w2 (hA.trans ((jG hs).trans hw'.2)))
 have hgo:=hq ρ w.drew a (fun a'=>∀ w',Cls E ρ h w.drew w'->wpList P ops QQ (EvQ.pick ops tl) a' w') hs1 hf hN hd fin
 simp only[zfc,Bool.or_eq_true,Bool.and_eq_true,decide_eq_true_eq,List.isEmpty_iff]at hB
 rcases hB with (hB | ⟨⟨hle,rfl⟩,hB⟩) | ⟨rfl,hB⟩
 ·exact EvQ.wp_region_head m tl hm hB hC1 hgo
 ·have hle':ops.toList.length<=m:=by simpa using hle
  rw[List.take_of_length_le hle']at hgo
  refine wp_region_quiet hm hB hC1 ?_
  exact hgo
 ·simp only[EvQ.lexTwo,Bool.and_eq_true,decide_eq_true_eq]at hB
  have hn:m<ops.size:=hB.1.1.1.2
  have:=hno rfl
  omega
theorem two_run {Y:Ty} (hY:TyOk P Y) (hm:P.follows .mixedOrders=true) {g:Ctx} (hcall:zi E P g.call) {id:Nat} {ops:Array Oper} {m:Nat} {o:Oper} (ho:ops[m]? = some o) (hB:zfc ops m []=true)
  {hd r:List OI} {i:OI} (h1:zY Y N ops.toList (ops.toList.take m)=some hd) (h2:jQ Y N ops.toList o=some i) (h3:zY Y N ops.toList (ops.toList.drop (m+1))=some r)
  {fr:Fr} {h:H} {fa:Fa} {k:K2} (hfa:FaOk E fa) (hk:zdp hd g fr h fa (fun fr h fa=>zaM [i] g fr h fa (fun fr h fa=>zdp r g fr h fa (fun fr h fa=>k .normal fr h fa)))=0):zeB E P N (.region id ops true) fr h k:=by
 obtain⟨fr1,fa1,hk1,hfa1,hq⟩:=zaU hY hcall _ _ fr fa h1 hfa hk
 obtain⟨fr2,h2',fa2,hk2,hfa2,hs2⟩:=zaF hY h2 hcall hfa1 hk1
 obtain⟨fr3,fa3,hk3,hfa3,hq3⟩:=zaU hY hcall _ _ fr2 fa2 h3 hfa2 hk2
 refine⟨.normal,fr3,h2',fa3,hk3,hfa3,fun {DS} ρ w a QQ hs hf hN hd hQ=>?_⟩
 have hs1:=zdl hs
 have hC1:Cls E ρ h w.drew { w with drawn:=w.drawn+1 }:=⟨hs1,hs1.refl E⟩
 have hm2:m<ops.size:=(Array.getElem?_eq_some_iff.1 ho).1
 have hB:EvQ.lexTwo .any ops m=true:=by
  simp only[zfc,Bool.or_eq_true,Bool.and_eq_true,decide_eq_true_eq,List.isEmpty_iff]at hB
  rcases hB with (hB | ⟨⟨hle,_⟩,_⟩) | ⟨_,hB⟩
  ·simp only[EvQ.lexTailP,Bool.and_eq_true,decide_eq_true_eq,List.length_nil]at hB
   omega
  ·omega
  ·exact hB
 refine EvQ.wp_region_two (C:=Cls E ρ h w.drew) m hm hB hC1 ?_
 refine hq ρ w.drew a _ hs1 hf hN hd fun a1 f1 n1 d1 w1 hw1=>?_
 have after:∀ a2 w2,At E N DS ρ h w1 fr2 h2' a2 w2->∃ C2:World->Prop,C2 w2/\wpQuiet P ops C2 (fun a3=>∀ w3,C2 w3->QQ .normal a3 w3) (ops.toList.drop (m+1)) a2:=by
  rintro a2 w2 ⟨ρ2,f2,n2,d2,s2,x2⟩
  refine⟨Cls E ρ2 h2' w2,⟨s2,s2.refl E⟩,?_⟩
  refine hq3 ρ2 w2 a2 _ s2 f2 n2 d2 fun a3 f3 n3 d3 w3 hw3=>?_
  exact hQ a3 w3 ⟨ρ2,f3,n3,d3,hw3.1,((jG hs).trans hw1.2).trans (x2.trans hw3.2)⟩
 unfold wpOp
 simp only[ho]
 rcases hs2 ρ w1 a1 QQ hw1.1 f1 n1 d1 with ⟨hw,hwp⟩ | ⟨hw,hA⟩
 ·rw[if_pos hw]
  exact .inl (jB after hwp)
 ·rw[if_neg (by simp[hw])]
  exact after _ _ hA
theorem yS {ρ:Rho} {h:H} {w:World} (s:Sat E ρ h w) (o:Obj):Sat E ρ h (w.alloc o):=
 ⟨fun p x hp=>O.Is_heap E (fun hl=>by rw[zv,Array.getElem?_push,if_neg (by have:=s.lt E hp hl;omega)]) (s.obj p x hp),s.inj,s.bd⟩
theorem zaz {ρ:Rho} {h:H} {w:World} (s:Sat E ρ h w) (o:Obj):Ext ρ h w ρ h (w.alloc o):=
 ⟨Nat.le_refl _,rfl,fun _ _=>rfl,fun p x h1 h2=>by have:=(s.bd p x h2).1;omega,rfl,rfl,rfl,by simp[zv],fun b hb _=>by rw[zv,Array.getElem?_push,if_neg (by omega)],fun _ _ _=>rfl,fun p x _ h1 h2=>⟨x,h1,h2⟩⟩
theorem zb9 {ρ:Rho} {h:H} {w:World} (s:Sat E ρ h w) (o:O) (hb:o.bd h.n.toNat) (L:Pl) (hL:∀ p o',h.t.get p=some o'->o'.live=true->(ρ p).b≠L.b) (hi:o.Is E ρ L w.heap):Sat E (jP ρ h.n L) (h.add o) w:=by
 have ha:∀ i:Ev.P,i.toNat<h.n.toNat->jP ρ h.n L i=ρ i:=fun i hi=>zao ρ L hi
 have hg:∀ p o',(h.add o).t.get p=some o'->(p=h.n/\o'=o)\/(p.toNat<h.n.toNat/\h.t.get p=some o'):=by
  intro p o' hp
  simp only[H.add,get_set]at hp
  split at hp
  ·rename_i e;simp at hp;exact .inl ⟨P.toNat_inj e,hp.symm⟩
  ·exact .inr ⟨(s.bd p o' hp).1,hp⟩
 refine⟨fun p o' hp=>?_,fun p q o1 o2 hp hq l1 l2 he=>?_,fun p o' hp=>?_⟩
 ·rcases hg p o' hp with ⟨rfl,rfl⟩ | ⟨h1,hp⟩
  ·rw[yQ];exact O.Is_agree E ha hb hi
  ·rw[ha p h1];exact O.Is_agree E ha (s.bd p o' hp).2 (s.obj p o' hp)
 ·rcases hg p o1 hp with ⟨e1,e2⟩ | ⟨h1,hp1⟩ <;> rcases hg q o2 hq with ⟨e3,e4⟩ | ⟨h2,hq1⟩
  ·rw[e1,e3]
  ·rw[e1,yQ,ha q h2]at he;exact absurd he.symm (hL q o2 hq1 l2)
  ·rw[e3,yQ,ha p h1]at he;exact absurd he (hL p o1 hp1 (yA l1))
  ·rw[ha p h1,ha q h2]at he;exact s.inj p q o1 o2 hp1 hq1 l1 l2 he
 ·have hn:(h.add o).n.toNat=h.n.toNat+1:=by simp[H.add]
  rcases hg p o' hp with ⟨rfl,rfl⟩ | ⟨h1,hp⟩
  ·exact⟨by omega,O.bd_mono (by omega) _ hb⟩
  ·exact⟨by omega,O.bd_mono (by omega) _ (s.bd p o' hp).2⟩
theorem zci {ρ ρ2:Rho} {h h2:H} {w w2:World} (x:Ext ρ h w ρ2 h2 w2) (hbd:∀ p o,h2.t.get p=some o->p.toNat<h2.n.toNat) (o:O) (L:Pl) (hL:w.heap.size<=L.b):Ext ρ h w (jP ρ2 h2.n L) (h2.add o) w2:=by
 have hlen:=x.len
 have hn:(h2.add o).n.toNat=h2.n.toNat+1:=by simp[H.add]
 have ho:∀ p:Ev.P,p.toNat<h2.n.toNat->(h2.add o).t.get p=h2.t.get p:=fun p hp=>by
  show (h2.t.set h2.n o).get p=_
  rw[get_set,if_neg (by omega)]
 refine⟨by omega,x.lo,fun p hp=>by rw[zao ρ2 L (by omega)];exact x.agree p hp,fun p o' h1 hp hl=>?_,x.os,x.tape,x.output,x.size,x.keep,fun p h1 h3=>by rw[ho p (by omega)];exact x.old p h1 h3,fun p o' h1 hp hl=>by rw[ho p (by omega)]at hp;exact x.liv p o' h1 hp hl⟩
 have hp':(h2.t.set h2.n o).get p=some o':=hp
 rw[get_set]at hp'
 split at hp'
 ·rename_i e
  rw[P.toNat_inj e,yQ]
  exact .inl hL
 ·have h4:=hbd p o' hp'
  rw[zao ρ2 L h4]
  exact x.new p o' h1 hp' hl
def zcQ (ob:Obj) (s0 b:Nat) (ρ:Rho) (h:H) (w:World):Prop:=w.heap[b]? = some ob/\s0<=b/\∀ p o,h.t.get p=some o->o.live=true->(ρ p).b≠b
theorem zcQ.step {ob:Obj} {s0 b:Nat} {ρ ρ1:Rho} {h h1:H} {w w1:World} (c:zcQ ob s0 b ρ h w) (x:Ext ρ h w ρ1 h1 w1):zcQ ob s0 b ρ1 h1 w1:=by
 obtain⟨c1,c2,c3⟩:=c
 have hb:b<w.heap.size:=yv c1
 refine⟨by rw[x.keep b hb (fun p o hp hl _=>c3 p o hp hl)];exact c1,c2,fun p o hp hl=>?_⟩
 by_cases hn:p.toNat<h.n.toNat
 ·obtain⟨o',h2,h3⟩:=x.liv p o hn hp hl
  rw[x.agree p hn];exact c3 p o' h2 h3
 ·rcases x.new p o (by omega) hp hl with h2 | ⟨q',o',h2,h3,_,h4⟩
  ·omega
  ·rw[<- h4];exact c3 q' o' h2 h3
theorem zaJ {ob:Obj} {s0:Nat} {ρ:Rho} {h:H} {w:World} (s:Sat E ρ h w) (h0:s0<=w.heap.size):zcQ ob s0 w.heap.size ρ h (w.alloc ob):=
 ⟨by rw[zv,Array.getElem?_push,if_pos rfl],h0,fun p o hp hl=>by have:=s.lt E hp hl;omega⟩
def jR (vl:Nat->Value) (d:Option Tmp) (lq:Option Nat) (a:Act):Act:=match lq with
 | none=>a
 | some b=>a.put d (vl b)
def ju (q:Nat) (lq:Option Nat) (L:Array Bool):Array Bool:=match lq with
 | none=>L
 | some _=>L.setIfInBounds q true
def zc5 (ob:Obj) (s0:Nat) (lq:Option Nat) (ρ:Rho) (h:H) (w:World):Prop:=match lq with
 | none=>True
 | some b=>zcQ ob s0 b ρ h w
def jF (lq:Option Nat) (n:Nat):Nat:=match lq with
 | none=>n+1
 | some _=>n
theorem zc5.step {ob:Obj} {s0:Nat} {lq:Option Nat} {ρ ρ1:Rho} {h h1:H} {w w1:World} (c:zc5 ob s0 lq ρ h w) (x:Ext ρ h w ρ1 h1 w1):zc5 ob s0 lq ρ1 h1 w1:=by
 cases lq with
 | none=>trivial
 | some b=>exact zcQ.step c x
theorem zcd {q i:Nat} {lq:Option Nat} {L:Array Bool} (h:i≠q):(ju q lq L).setIfInBounds i true=ju q lq (L.setIfInBounds i true):=by
 cases lq with
 | none=>rfl
 | some b=>exact Array.setIfInBounds_comm _ _ (Ne.symm h)
theorem ziV (lq:Option Nat) (n:Nat):jF lq (n+1)=jF lq n+1:=by cases lq <;> rfl
theorem zlL {ops:Array Oper} {QQ:Exit->Act->World->Prop} {vl:Nat->Value} {lq:Option Nat} {j:Nat} {oq oj:Oper} (hj:ops[j]? = some oj) (hap:oq.apart ops oj=true) (hsj:∀ cs b,oj.op≠.select cs b) (hp:∀ c a w,¬ QQ (.panic c) a w) {K:Act->World->Prop} {a:Act} {w:World}
  (h:wpOp P ops QQ j (fun a' w'=>K (jR vl oq.dst lq a') w') a w):wpOp P ops QQ j K (jR vl oq.dst lq a) w:=by
 cases lq with
 | none=>exact h
 | some b=>exact EvQ.put_op hj hap hsj hp h
theorem zeZ {ops:Array Oper} {S:World->Prop} {vl:Nat->Value} {lq:Option Nat} {oq oi:Oper} {v:Value} {a:Act} (hap:oq.apart ops oi=true) (hs:∀ cs b,oi.op≠.select cs b) (h:YieldsIf P ops S oi v a):YieldsIf P ops S oi v (jR vl oq.dst lq a):=by
 obtain⟨h1,h2,h3⟩:=Oper.apart_spec hap
 cases lq with
 | none=>exact h
 | some b=>exact h.of_same (execOp_put oi hs a oq.dst _ h1) (wanted_put oi a oq.dst _ h1)
theorem zuD {ops:Array Oper} {vl:Nat->Value} {lq:Option Nat} {oq oi:Oper} {v:Value} {a:Act} (hap:oq.apart ops oi=true):(jR vl oq.dst lq a).put oi.dst v=jR vl oq.dst lq (a.put oi.dst v):=by
 obtain⟨h1,h2,h3⟩:=Oper.apart_spec hap
 cases lq with
 | none=>rfl
 | some b=>exact Act.put_comm a _ v h2
def AtQ (E:Env) (N:Nat) (DS:List Deferred) (ob:Obj) (s0:Nat) (lq:Option Nat) (ρ:Rho) (h:H) (w:World) (fr':Fr) (h':H) (a':Act) (w':World):Prop:=
 ∃ ρ',zw E ρ' h'.n.toNat fr' a'.tmps/\N<=a'.tmps.size/\a'.defers=DS/\Sat E ρ' h' w'/\Ext ρ h w ρ' h' w'/\zc5 ob s0 lq ρ' h' w'
theorem AtQ.trans {DS:List Deferred} {ob:Obj} {s0:Nat} {lq:Option Nat} {ρ ρ1:Rho} {h h1:H} {w w1:World} (hx:Ext ρ h w ρ1 h1 w1) {fr:Fr} {h':H} {a:Act} {w':World} (s:AtQ E N DS ob s0 lq ρ1 h1 w1 fr h' a w'):AtQ E N DS ob s0 lq ρ h w fr h' a w':=by
 obtain⟨ρ',s1,s2,s3,s4,s5,s6⟩:=s
 exact⟨ρ',s1,s2,s3,s4,hx.trans s5,s6⟩
structure MakesQ (P:Program) (ops:Array Oper) (q:Nat) (oq:Oper) (ob:Obj) (vl:Nat->Value):Prop where
 at_:ops[q]? = some oq
 guard:oq.guard=none
 run:∀ (a:Act) (w:World),(execOp a.eval oq).run P w=.ok (.value (vl w.heap.size)) (w.alloc ob)
theorem MakesQ.op {ops:Array Oper} {q:Nat} {oq:Oper} {ob:Obj} {vl:Nat->Value} (m:MakesQ P ops q oq ob vl) {QQ:Exit->Act->World->Prop} {K:Act->World->Prop} {a:Act} {w:World}
  (h:K (jR vl oq.dst (some w.heap.size) a) (w.alloc ob)):wpOp P ops QQ q K a w:=by
 unfold wpOp
 simp only[m.at_]
 rw[if_pos (by simp[Region.wanted,m.guard])]
 refine .inl ?_
 unfold Oper.wp
 rw[m.run]
 exact h
theorem MakesQ.keeps {ops:Array Oper} {q:Nat} {oq:Oper} {ob:Obj} {vl:Nat->Value} (m:MakesQ P ops q oq ob vl) {QQ:Exit->Act->World->Prop} {ρ0:Rho} {hS:H} (a:Act) (w:World) (K:Act->World->Prop) (hs:Sat E ρ0 hS w) (h:wpOp P ops QQ q K a w) :
  wpOp P ops QQ q (fun a' w'=>Sat E ρ0 hS w'/\K a' w') a w:=by
 unfold wpOp at h ⊢
 simp only[m.at_]at h ⊢
 rw[if_pos (by simp[Region.wanted,m.guard])]at h ⊢
 refine h.imp (fun h=>?_) id
 unfold Oper.wp at h ⊢
 rw[m.run]at h ⊢
 exact⟨yS hs _,h⟩
theorem zdQ {r:List Nat} {i q:Nat} (h:sub2 r i q=true):i∈r/\∀ j∈r,j=i\/j=q:=by
 simp only[sub2,Bool.and_eq_true,List.contains_iff_mem,List.all_eq_true,Bool.or_eq_true,Nat.beq_eq]at h
 exact h
theorem zbB {ops:Array Oper} {q i:Nat} {oq oi:Oper} (hq:ops[q]? = some oq) (hi:ops[i]? = some oi) (h:apB ops q i=true):oq.apart ops oi=true:=by
 simpa [apB,hq,hi] using h
theorem zfZ {ops:Array Oper} {q i:Nat} {oq:Oper} {d:Tmp} (hq:ops[q]? = some oq) (hd:oq.dst=some d) (h:apB ops q i=true):i≠q:=by
 intro e
 subst e
 have h1:=zbB hq hq h
 obtain⟨_,h2,_⟩:=Oper.apart_spec h1
 exact h2 d hd hd
theorem zc4 {Y:Ty} (hY:TyOk P Y) {g:Ctx} (hcall:zi E P g.call) {ops:Array Oper} (hsel:Region.noSelect ops=true) {q:Nat} {oq:Oper} {ob:Obj} {vl:Nat->Value} (m:MakesQ P ops q oq ob vl) {dq:Tmp} (hdq:oq.dst=some dq) {tl:List Nat} {k:K1} :
  ∀ (ch:List Nat) (l':List OI) (fr:Fr) (h:H) (fa:Fa),zY Y N ops.toList (yW ops.toList ch)=some l'->FaOk E fa->zaM l' g fr h fa k=0 ->
  ∃ fr' h' fa',k fr' h' fa'=0/\FaOk E fa'/\∀ (lq:Option Nat) L,chF ops q tl ch L=true->∀ {DS:List Deferred} s0 ρ w a QQ,s0<=w.heap.size->Sat E ρ h w->zw E ρ h.n.toNat fr (a:Act).tmps->N<=a.tmps.size->a.defers=DS->zc5 ob s0 lq ρ h w ->
   (∀ c a w,¬ QQ (.panic c) a w)->(∀ b a' w' L',AtQ E N DS ob s0 (some b) ρ h w fr' h' a' w'->jV ops tl L'=true->wpAny P .any ops QQ tl.length L' (jR vl oq.dst (some b) a') w')->wpAny P .any ops QQ (jF lq (tl.length+ch.length)) (ju q lq L) (jR vl oq.dst lq a) w
 | [],l',fr,h,fa,hl,hfa,hk=>by
  simp[yW,zY]at hl;subst hl
  refine⟨fr,h,fa,hk,hfa,fun lq L hB {DS} s0 ρ w a QQ h0 hs hf hN hd hc hp hq=>?_⟩
  simp only[chF,Bool.and_eq_true,decide_eq_true_eq]at hB
  cases lq with
  | some b=>exact hq b a w _ ⟨ρ,hf,hN,hd,hs,hs.refl E,hc⟩ hB.2
  | none=>
   refine wpAny_all hB.1 (by simp) fun j hj=>?_
   have hj:j=q:=by simpa using hj
   subst hj
   exact m.op (hq _ a _ _ ⟨ρ,hf,hN,hd,yS hs _,zaz hs _,zaJ hs h0⟩ hB.2)
 | i::r,l',fr,h,fa,hl,hfa,hk=>by
  cases ho:nth ops.toList i with
  | none=>
   simp only[yW,ho]at hl
   obtain⟨fr2,h2',fa2,hk2,hfa2,_⟩:=zc4 hY hcall hsel m hdq (tl:=tl) r l' fr h fa hl hfa hk
   refine⟨fr2,h2',fa2,hk2,hfa2,fun lq L hB=>?_⟩
   simp only[chF,Bool.and_eq_true,decide_eq_true_eq]at hB
   rw[zX,Array.getElem?_toList]at ho
   have:=hB.1.1.1.1
   simp[this]at ho
  | some o=>
   simp only[yW,ho]at hl
   rw[zX,Array.getElem?_toList]at ho
   obtain⟨x,l2,hx,hl2,rfl⟩:=zaj hl
   have hk:OI.go zam jd x g fr h fa (fun fr h fa=>zaM l2 g fr h fa k)=0:=hk
   obtain⟨fr1,h1,fa1,hk1,hfa1,hone⟩:=zaF hY hx hcall hfa hk
   obtain⟨fr2,h2',fa2,hk2,hfa2,h3⟩:=zc4 hY hcall hsel m hdq (tl:=tl) r l2 fr1 h1 fa1 hl2 hfa1 hk1
   refine⟨fr2,h2',fa2,hk2,hfa2,?_⟩
   have zdf:∀ (lq:Option Nat) L,chF ops q tl (i::r) L=true->∀ {DS:List Deferred} s0 ρ w a QQ,s0<=w.heap.size->Sat E ρ h w->zw E ρ h.n.toNat fr (a:Act).tmps->N<=a.tmps.size->a.defers=DS->zc5 ob s0 lq ρ h w ->
     (∀ c a w,¬ QQ (.panic c) a w)->(∀ b a' w' L',AtQ E N DS ob s0 (some b) ρ h w fr2 h2' a' w'->jV ops tl L'=true->wpAny P .any ops QQ tl.length L' (jR vl oq.dst (some b) a') w') ->
     wpOp P ops QQ i (wpAny P .any ops QQ (jF lq (tl.length+r.length)) ((ju q lq L).setIfInBounds i true)) (jR vl oq.dst lq a) w:=by
    intro lq L hB DS s0 ρ w a QQ h0 hs hf hN hd hc hp hq
    simp only[chF,Bool.and_eq_true,decide_eq_true_eq]at hB
    obtain⟨⟨⟨⟨hlt,hap⟩,hready⟩,hready2⟩,hB⟩:=hB
    have hne:=zfZ m.at_ hdq hap
    refine zlL ho (zbB m.at_ ho hap) (fun cs b=>Region.noSelect_spec hsel i o cs b ho) hp ?_
    have next:∀ a1 w1,At E N DS ρ h w fr1 h1 a1 w1->wpAny P .any ops QQ (jF lq (tl.length+r.length)) ((ju q lq L).setIfInBounds i true) (jR vl oq.dst lq a1) w1:=by
     rintro a1 w1 ⟨ρ1,f1,n1,d1,s1,x1⟩
     rw[zcd hne]
     exact h3 lq _ hB s0 ρ1 w1 a1 QQ (Nat.le_trans h0 x1.size) s1 f1 n1 d1 (hc.step x1) hp (fun b a' w' L' hA=>hq b a' w' L' (hA.trans x1))
    unfold wpOp
    simp only[ho]
    rcases hone ρ w a QQ hs hf hN hd with ⟨hw,hwp⟩ | ⟨hw,hA⟩
    ·rw[if_pos hw]
     exact .inl (jB next hwp)
    ·rw[if_neg (by simp[hw])]
     exact next _ _ hA
   have main:∀ b L,chF ops q tl (i::r) L=true->∀ {DS:List Deferred} s0 ρ w a QQ,s0<=w.heap.size->Sat E ρ h w->zw E ρ h.n.toNat fr (a:Act).tmps->N<=a.tmps.size->a.defers=DS->zcQ ob s0 b ρ h w ->
     (∀ c a w,¬ QQ (.panic c) a w)->(∀ b a' w' L',AtQ E N DS ob s0 (some b) ρ h w fr2 h2' a' w'->jV ops tl L'=true->wpAny P .any ops QQ tl.length L' (jR vl oq.dst (some b) a') w') ->
     wpAny P .any ops QQ (tl.length+(i::r).length) (L.setIfInBounds q true) (jR vl oq.dst (some b) a) w:=by
    intro b L hB DS s0 ρ w a QQ h0 hs hf hN hd hc hp hq
    have hB':=hB
    simp only[chF,Bool.and_eq_true,decide_eq_true_eq]at hB'
    refine wpAny_all hB'.1.2 (by simp) fun j hj=>?_
    have hj:j=i:=by simpa using hj
    subst hj
    exact zdf (some b) L hB s0 ρ w a QQ h0 hs hf hN hd hc hp hq
   intro lq L hB DS s0 ρ w a QQ h0 hs hf hN hd hc hp hq
   cases lq with
   | some b=>exact main b L hB s0 ρ w a QQ h0 hs hf hN hd hc hp hq
   | none=>
    have hB':=hB
    simp only[chF,Bool.and_eq_true,decide_eq_true_eq]at hB'
    obtain⟨hi,hsub⟩:=zdQ hB'.1.1.2
    refine⟨fun e=>absurd hi (by rw[show Region.ready .any ops L=[] from e];simp),fun j hj=>?_⟩
    rcases hsub j hj with rfl | rfl
    ·exact zdf none L hB s0 ρ w a QQ h0 hs hf hN hd hc hp hq
    ·exact m.op (main _ L hB s0 ρ _ a QQ (by simp[zv];omega) (yS hs _) hf hN hd (zaJ hs h0) hp (fun b a' w' L' hA=>hq b a' w' L' (hA.trans (zaz hs _))))
theorem zd5 {Y:Ty} (hY:TyOk P Y) {g:Ctx} (hcall:zi E P g.call) {ops:Array Oper} (hsel:Region.noSelect ops=true) {q:Nat} {oq:Oper} {ob:Obj} {vl:Nat->Value} (m:MakesQ P ops q oq ob vl) {dq:Tmp} (hdq:oq.dst=some dq) {D ch tl:List Nat} (hrest:EvQ.restOkQ ops D q=true) (hqD:q∉D) {hS:H} {k:K1} :
  ∀ (ord:List (Bool × Nat)) (l:List (Bool × OI)) (fr:Fr) (h:H) (fa:Fa),zZ Y N ops.toList ord=some l->FaOk E fa->z3 hS l g fr h fa k=0 ->
  ∃ fr' h' fa',k fr' h' fa'=0/\FaOk E fa'/\∀ (lq:Option Nat) L,goF ops D q ch tl ord L=true->EvQ.Closed ops (ju q lq L)->∀ {DS:List Deferred} s0 ρ0 ρ w a QQ,s0<=w.heap.size->hS.n.toNat<=h.n.toNat->yr hS h->Sat E ρ0 hS w->(∀ p:Ev.P,p.toNat<hS.n.toNat->ρ p=ρ0 p)->Sat E ρ h w->zw E ρ h.n.toNat fr (a:Act).tmps->N<=a.tmps.size->a.defers=DS->zc5 ob s0 lq ρ h w ->
   (∀ c a w,¬ QQ (.panic c) a w)->(∀ lq' a' w' L',AtQ E N DS ob s0 lq' ρ h w fr' h' a' w'->chF ops q tl ch L'=true->wpAny P .any ops QQ (jF lq' (tl.length+ch.length)) (ju q lq' L') (jR vl oq.dst lq' a') w') ->
   EvQ.wpAnyT P ops QQ (Sat E ρ0 hS) D (jF lq (tl.length+ch.length+ord.length)) (ju q lq L) (jR vl oq.dst lq a) w
 | [],l,fr,h,fa,hl,hfa,hk=>by
  simp[zZ]at hl;subst hl
  refine⟨fr,h,fa,hk,hfa,fun lq L hB hcl {DS} s0 ρ0 ρ w a QQ h0 hn hke hs0 ha hs hf hN hd hc hp hq=>?_⟩
  simp only[goF,Bool.and_eq_true]at hB
  refine EvQ.T_done ?_ (hq lq a w L ⟨ρ,hf,hN,hd,hs,hs.refl E,hc⟩ hB.2)
  cases lq with
  | none=>exact hB.1
  | some b=>exact EvQ.doneD_add hB.1
 | (true,i)::r,l,fr,h,fa,hl,hfa,hk=>by
  obtain⟨o,x,l2,ho,hx,hl2,rfl⟩:=yf hl
  rw[zX,Array.getElem?_toList]at ho
  have hk:OI.go qOp hNo x g fr hS fa (fun fr _ fa=>z3 hS l2 g fr h fa k)=0:=hk
  obtain⟨d,gg,hd,hg,hxx⟩:=z8 hx
  rcases hxx with ⟨ii,hi,rfl⟩ | ⟨cl,f0,f,ll,hop,hcal,hf0,hll,rfl⟩
  rotate_left
  ·exact absurd (show err g 63=0 from hk) (zl _ _)
  have hk:qOp d gg ii g fr hS fa (fun fr _ fa=>z3 hS l2 g fr h fa k)=0:=hk
  have fin:∀ fr1 fa1,FaOk E fa1->z3 hS l2 g fr1 h fa1 k=0->(∀ ρ0 ρ w a,hS.n.toNat<=h.n.toNat->(∀ p:Ev.P,p.toNat<hS.n.toNat->ρ p=ρ0 p)->Sat E ρ0 hS w->zw E ρ h.n.toNat fr (a:Act).tmps->N<=a.tmps.size ->
     ∃ v,YieldsIf P ops (Sat E ρ0 hS) o v a/\zw E ρ h.n.toNat fr1 (a.put o.dst v).tmps/\N<=(a.put o.dst v).tmps.size/\(a.put o.dst v).defers=a.defers) ->
    ∃ fr' h' fa',k fr' h' fa'=0/\FaOk E fa'/\∀ (lq:Option Nat) L,goF ops D q ch tl ((true,i)::r) L=true->EvQ.Closed ops (ju q lq L)->∀ {DS:List Deferred} s0 ρ0 ρ w a QQ,s0<=w.heap.size->hS.n.toNat<=h.n.toNat->yr hS h->Sat E ρ0 hS w->(∀ p:Ev.P,p.toNat<hS.n.toNat->ρ p=ρ0 p)->Sat E ρ h w->zw E ρ h.n.toNat fr (a:Act).tmps->N<=a.tmps.size->a.defers=DS->zc5 ob s0 lq ρ h w ->
     (∀ c a w,¬ QQ (.panic c) a w)->(∀ lq' a' w' L',AtQ E N DS ob s0 lq' ρ h w fr' h' a' w'->chF ops q tl ch L'=true->wpAny P .any ops QQ (jF lq' (tl.length+ch.length)) (ju q lq' L') (jR vl oq.dst lq' a') w') ->
     EvQ.wpAnyT P ops QQ (Sat E ρ0 hS) D (jF lq (tl.length+ch.length+((true,i)::r).length)) (ju q lq L) (jR vl oq.dst lq a) w:=by
   intro fr1 fa1 hfa1 hk1 hy
   obtain⟨fr2,h2,fa2,hk2,hfa2,hr2⟩:=zd5 hY hcall hsel m hdq hrest hqD r l2 fr1 h fa1 hl2 hfa1 hk1
   refine⟨fr2,h2,fa2,hk2,hfa2,fun lq L hB hcl {DS} s0 ρ0 ρ w a QQ h0 hn hke hs0 ha hs hf hN hdf hc hp hq=>?_⟩
   simp only[goF,Bool.and_eq_true]at hB
   obtain⟨⟨⟨⟨hD,hap⟩,hfr1,hrd1⟩,hfr2,hrd2⟩,hB⟩:=hB
   have hap':=zbB m.at_ ho hap
   have hne:=zfZ m.at_ hdq hap
   obtain⟨v,hyy,g1,g2,g3⟩:=hy ρ0 ρ w a hn ha hs0 hf hN
   have hready:(Region.ready .any ops (ju q lq L)).contains i=true:=by cases lq <;> assumption
   have hfree:Region.free .any ops (ju q lq L) i=true:=by cases lq <;> assumption
   rw[show tl.length+ch.length+((true,i)::r).length=tl.length+ch.length+r.length+1 from rfl,ziV]
   refine EvQ.T_takeQ hrest hqD (fun a w K hs h=>m.keeps a w K hs h) hcl (i:=i) ho (by simpa using hD) hsel hfree hready (fun c a w hh=>absurd hh (hp c _ w)) (zeZ hap' (fun cs b=>Region.noSelect_spec hsel i o cs b ho) hyy) hs0 ?_
   rw[zuD hap']
   have hcl2:=hcl.add (show i∈Region.ready .any ops (ju q lq L) by simpa using hready)
   rw[zcd hne]at hcl2 ⊢
   exact hr2 lq _ hB hcl2 s0 ρ0 ρ w _ QQ h0 hn hke hs0 ha hs g1 g2 (g3.trans hdf) hc hp hq
  rcases yE hg hfa hk with ⟨fa1,hfa1,hk,hw⟩ | ⟨fa1,hfa1,hk,hw⟩
  ·obtain⟨hst,hk⟩:=zn hk (zl _ _)
   obtain⟨v,h',hk,hrun⟩:=yh hY hi hst hk (zl _ _)
   obtain⟨fr1,hk,hput⟩:=zP hfa1 hd hk
   refine fin fr1 fa1 hfa1 hk fun ρ0 ρ w a hn ha hs0 hf hN=>?_
   have conv:∀ w,Sat E ρ0 hS w->Sat E ρ hS w:=fun w s=>y6 (ρ0:=ρ) (h:=hS) ⟨fun p o hp=>O.Is_agree E (fun i hi=>ha i hi) (s.bd p o hp).2 (by rw[ha p (s.bd p o hp).1];exact s.obj p o hp),
    fun p q o o' hp hq l1 l2 he=>s.inj p q o o' hp hq l1 l2 (by rw[<- ha p (s.bd p o hp).1,<- ha q (s.bd q o' hq).1];exact he),s.bd⟩ s (fun p o hp _=>hp) (fun p hp=>(ha p hp).symm)
   obtain⟨g1,g2,g3⟩:=hput ρ _ a hf hN (hrun E ρ _ a w hn hf (conv w hs0)).2
   exact⟨_,.inl ⟨hw ρ _ a hf,fun w' hw'=>(hrun E ρ _ a w' hn hf (conv w' hw')).1⟩,g1,g2,g3⟩
  ·obtain⟨fr1,hk,hput⟩:=z7 hd hk
   refine fin fr1 fa1 hfa1 hk fun ρ0 ρ w a hn ha hs0 hf hN=>?_
   obtain⟨g1,g2,g3⟩:=hput E ρ h.n.toNat a hf hN (by trivial)
   exact⟨_,.inr ⟨hw ρ _ a hf,rfl⟩,g1,g2,g3⟩
 | (false,i)::r,l,fr,h,fa,hl,hfa,hk=>by
  obtain⟨o,x,l2,ho,hx,hl2,rfl⟩:=yf hl
  rw[zX,Array.getElem?_toList]at ho
  have hk:OI.go (hOp hS) (ziU hS) x g fr h fa (fun fr h fa=>z3 hS l2 g fr h fa k)=0:=hk
  obtain⟨d,gg,hd,hg,hxx⟩:=z8 hx
  have one:∀ fr1 h1 fa1,FaOk E fa1->o.guard=none->z3 hS l2 g fr1 h1 fa1 k=0 ->
    (∀ {DS:List Deferred} ρ w a QQ,(∀ p o,hS.t.get p=some o->p.toNat<hS.n.toNat)->hS.n.toNat<=h.n.toNat->yr hS h->Sat E ρ h w->zw E ρ h.n.toNat fr (a:Act).tmps->N<=a.tmps.size->a.defers=DS->o.wp P a w (fun a1 w1=>At E N DS ρ h w fr1 h1 a1 w1/\yr hS h1) QQ) ->
    ∃ fr' h' fa',k fr' h' fa'=0/\FaOk E fa'/\∀ (lq:Option Nat) L,goF ops D q ch tl ((false,i)::r) L=true->EvQ.Closed ops (ju q lq L)->∀ {DS:List Deferred} s0 ρ0 ρ w a QQ,s0<=w.heap.size->hS.n.toNat<=h.n.toNat->yr hS h->Sat E ρ0 hS w->(∀ p:Ev.P,p.toNat<hS.n.toNat->ρ p=ρ0 p)->Sat E ρ h w->zw E ρ h.n.toNat fr (a:Act).tmps->N<=a.tmps.size->a.defers=DS->zc5 ob s0 lq ρ h w ->
     (∀ c a w,¬ QQ (.panic c) a w)->(∀ lq' a' w' L',AtQ E N DS ob s0 lq' ρ h w fr' h' a' w'->chF ops q tl ch L'=true->wpAny P .any ops QQ (jF lq' (tl.length+ch.length)) (ju q lq' L') (jR vl oq.dst lq' a') w') ->
     EvQ.wpAnyT P ops QQ (Sat E ρ0 hS) D (jF lq (tl.length+ch.length+((false,i)::r).length)) (ju q lq L) (jR vl oq.dst lq a) w:=by
   intro fr1 h1 fa1 hfa1 hgd hk1 hstep
   obtain⟨fr2,h2,fa2,hk2,hfa2,hr2⟩:=zd5 hY hcall hsel m hdq hrest hqD r l2 fr1 h1 fa1 hl2 hfa1 hk1
   refine⟨fr2,h2,fa2,hk2,hfa2,?_⟩
   have zdf:∀ (lq:Option Nat) L,goF ops D q ch tl ((false,i)::r) L=true->i∈Region.ready .any ops (ju q lq L)->EvQ.Closed ops (ju q lq L)->∀ {DS:List Deferred} s0 ρ0 ρ w a QQ,s0<=w.heap.size->hS.n.toNat<=h.n.toNat->yr hS h->Sat E ρ0 hS w->(∀ p:Ev.P,p.toNat<hS.n.toNat->ρ p=ρ0 p)->Sat E ρ h w->zw E ρ h.n.toNat fr (a:Act).tmps->N<=a.tmps.size->a.defers=DS->zc5 ob s0 lq ρ h w ->
     (∀ c a w,¬ QQ (.panic c) a w)->(∀ lq' a' w' L',AtQ E N DS ob s0 lq' ρ h w fr2 h2 a' w'->chF ops q tl ch L'=true->wpAny P .any ops QQ (jF lq' (tl.length+ch.length)) (ju q lq' L') (jR vl oq.dst lq' a') w') ->
     wpOp P ops QQ i (fun a' w'=>Sat E ρ0 hS w'/\EvQ.wpAnyT P ops QQ (Sat E ρ0 hS) D (jF lq (tl.length+ch.length+r.length)) ((ju q lq L).setIfInBounds i true) a' w') (jR vl oq.dst lq a) w:=by
    intro lq L hB hir hcl DS s0 ρ0 ρ w a QQ h0 hn hke hs0 ha hs hf hN hdf hc hp hq
    simp only[goF,Bool.and_eq_true,decide_eq_true_eq]at hB
    obtain⟨⟨⟨⟨hD,hap⟩,hready⟩,hready2⟩,hB⟩:=hB
    have hne:=zfZ m.at_ hdq hap
    refine zlL ho (zbB m.at_ ho hap) (fun cs b=>Region.noSelect_spec hsel i o cs b ho) hp ?_
    unfold wpOp
    simp only[ho]
    rw[if_pos (by simp[Region.wanted,hgd])]
    refine .inl (jB ?_ (hstep ρ w a QQ (fun p o hp=>(hs0.bd p o hp).1) hn hke hs hf hN hdf))
    rintro a1 w1 ⟨⟨ρ1,f1,n1,d1,s1,x1⟩,hke1⟩
    have ha1:∀ p:Ev.P,p.toNat<hS.n.toNat->ρ1 p=ρ0 p:=fun p hp=>by rw[x1.agree p (by omega),ha p hp]
    have hs1:Sat E ρ0 hS w1:=y6 hs0 s1 hke1 ha1
    refine⟨hs1,?_⟩
    have hcl2:=hcl.add hir
    rw[zcd hne]at hcl2 ⊢
    exact hr2 lq _ hB hcl2 s0 ρ0 ρ1 w1 a1 QQ (Nat.le_trans h0 x1.size) (Nat.le_trans hn x1.len) hke1 hs1 ha1 s1 f1 n1 d1 (hc.step x1) hp (fun lq' a' w' L' hA=>hq lq' a' w' L' (hA.trans x1))
   have main:∀ b L,goF ops D q ch tl ((false,i)::r) L=true->EvQ.Closed ops (L.setIfInBounds q true)->∀ {DS:List Deferred} s0 ρ0 ρ w a QQ,s0<=w.heap.size->hS.n.toNat<=h.n.toNat->yr hS h->Sat E ρ0 hS w->(∀ p:Ev.P,p.toNat<hS.n.toNat->ρ p=ρ0 p)->Sat E ρ h w->zw E ρ h.n.toNat fr (a:Act).tmps->N<=a.tmps.size->a.defers=DS->zcQ ob s0 b ρ h w ->
     (∀ c a w,¬ QQ (.panic c) a w)->(∀ lq' a' w' L',AtQ E N DS ob s0 lq' ρ h w fr2 h2 a' w'->chF ops q tl ch L'=true->wpAny P .any ops QQ (jF lq' (tl.length+ch.length)) (ju q lq' L') (jR vl oq.dst lq' a') w') ->
     EvQ.wpAnyT P ops QQ (Sat E ρ0 hS) D (tl.length+ch.length+r.length+1) (L.setIfInBounds q true) (jR vl oq.dst (some b) a) w:=by
    intro b L hB hcl DS s0 ρ0 ρ w a QQ h0 hn hke hs0 ha hs hf hN hdf hc hp hq
    have hB':=hB
    simp only[goF,Bool.and_eq_true,decide_eq_true_eq]at hB'
    obtain⟨⟨⟨⟨hD,hap⟩,hready⟩,hready2⟩,_⟩:=hB'
    refine EvQ.T_some (i:=i) (by simpa using hD) (by rw[hready2];simp) fun j hj=>?_
    rw[hready2]at hj
    have hj:j=i:=by simpa using hj
    subst hj
    exact zdf (some b) L hB (by show j∈Region.ready .any ops (L.setIfInBounds q true);rw[hready2];simp) hcl s0 ρ0 ρ w a QQ h0 hn hke hs0 ha hs hf hN hdf hc hp hq
   intro lq L hB hcl DS s0 ρ0 ρ w a QQ h0 hn hke hs0 ha hs hf hN hdf hc hp hq
   cases lq with
   | some b=>exact main b L hB hcl s0 ρ0 ρ w a QQ h0 hn hke hs0 ha hs hf hN hdf hc hp hq
   | none=>
    have hB':=hB
    simp only[goF,Bool.and_eq_true,decide_eq_true_eq]at hB'
    obtain⟨⟨⟨⟨hD,hap⟩,hready⟩,hready2⟩,_⟩:=hB'
    obtain⟨hi,hsub⟩:=zdQ hready
    refine EvQ.T_some (fuel:=tl.length+ch.length+r.length+1) (i:=i) (by simpa using hD) hi fun j hj=>?_
    rcases hsub j hj with rfl | rfl
    ·exact zdf none L hB hi hcl s0 ρ0 ρ w a QQ h0 hn hke hs0 ha hs hf hN hdf hc hp hq
    ·exact m.op ⟨yS hs0 _,main _ L hB (EvQ.Closed.add hcl hj) s0 ρ0 ρ _ a QQ (by simp[zv];omega) hn hke (yS hs0 _) ha (yS hs _) hf hN hdf (zaJ hs h0) hp (fun lq' a' w' L' hA=>hq lq' a' w' L' (hA.trans (zaz hs _)))⟩
  rcases hxx with ⟨ii,hi,rfl⟩ | ⟨cl,f0,f,ll,hop,hcal,hf0,hll,rfl⟩
  ·have hk:oc gg (fun _=>err g 60) (bc (zad ii fr hS) (evI ii fr h (fun v h=>yI d fa v fr (fun fr=>z3 hS l2 g fr h fa k)) (err g (yu ii))) (bc (zN ii) (evI ii fr h (fun v _=>yI d fa v fr (fun fr=>z3 hS l2 g fr h fa k)) (err g (yu ii))) (err g 61)))=0:=hk
   cases gg with
   | some gg=>exact absurd (show err g 60=0 from hk) (zl _ _)
   | none=>
    have hk:bc (zad ii fr hS) (evI ii fr h (fun v h=>yI d fa v fr (fun fr=>z3 hS l2 g fr h fa k)) (err g (yu ii))) (bc (zN ii) (evI ii fr h (fun v _=>yI d fa v fr (fun fr=>z3 hS l2 g fr h fa k)) (err g (yu ii))) (err g 61))=0:=hk
    cases hmk:zad ii fr hS with
    | false=>
     rw[hmk]at hk
     obtain⟨hst,hk⟩:=zn (show bc (zN ii) _ _=0 from hk) (zl _ _)
     obtain⟨v,_,hk,hrun⟩:=yh hY hi hst hk (zl _ _)
     obtain⟨fr1,hk,hput⟩:=zP hfa hd hk
     refine one fr1 h fa hfa (yx hg) hk fun {DS} ρ w a QQ hbd hn hke hs hf hN hdf=>?_
     obtain⟨q1,q2⟩:=hrun E ρ _ a w (Nat.le_refl _) hf hs
     obtain⟨g1,g2,g3⟩:=hput ρ _ a hf hN q2
     unfold Oper.wp
     rw[q1]
     exact⟨⟨ρ,g1,g2,g3.trans hdf,hs,hs.refl E⟩,hke⟩
    | true=>
    rw[hmk]at hk
    have hk:evI ii fr h (fun v h=>yI d fa v fr (fun fr=>z3 hS l2 g fr h fa k)) (err g (yu ii))=0:=hk
    obtain⟨v,h1,hk,hrun,hkeep⟩:=zaQ hY hi hmk hk (zl _ _)
    obtain⟨fr1,hk,hput⟩:=zP hfa hd hk
    refine one fr1 h1 fa hfa (yx hg) hk fun {DS} ρ w a QQ hbd hn hke hs hf hN hdf=>?_
    obtain⟨ρ',w',nx,hr,hnx,hs',hx',hb⟩:=hrun E ρ a w hf hs
    obtain⟨g1,g2,g3⟩:=hput ρ' _ a (hf.mono hx'.len hx'.agree) hN hb
    unfold Oper.wp
    rw[hr]
    have hgo:At E N DS ρ h w fr1 h1 (a.put o.dst (v.γ E ρ')) w'/\yr hS h1:=⟨⟨ρ',g1,g2,g3.trans hdf,hs',hx'⟩,hkeep hbd hn hke⟩
    rcases hnx with rfl | ⟨rfl,rfl⟩
    ·exact hgo
    ·exact hgo
  ·have hk:oc gg (fun _=>err g 62) (hc h (fun n lo t=>hc hS (fun m _ _=>bc (pLe lo m) (jU f ll g fr ⟨n,m,t⟩ fa (fun v h' fa=>hc h' (fun n' _ t'=>jC d v fr (fun fr=>z3 hS l2 g fr ⟨n',lo,t'⟩ fa k)))) (err g 65))))=0:=hk
   cases gg with
   | some gg=>exact absurd (show err g 62=0 from hk) (zl _ _)
   | none=>
    have hk:hc h (fun n lo t=>hc hS (fun m _ _=>bc (pLe lo m) (jU f ll g fr ⟨n,m,t⟩ fa (fun v h' fa=>hc h' (fun n' _ t'=>jC d v fr (fun fr=>z3 hS l2 g fr ⟨n',lo,t'⟩ fa k)))) (err g 65)))=0:=hk
    rw[jX,jX]at hk
    obtain⟨hlo,hk⟩:=zn hk (zl _ _)
    have hlo:h.lo.toNat<=hS.n.toNat:=by simpa [pLe] using hlo
    obtain⟨F,vl,v,h1,fa1,hk,hfa1,hr,hdo⟩:=jY hop hcal hf0 hll hcall hfa hk
    rw[jX]at hk
    obtain⟨fr1,hk,hput⟩:=z7 hd hk
    refine one fr1 ⟨h1.n,h.lo,h1.t⟩ fa1 hfa1 (yx hg) hk fun {DS} ρ w a QQ hbd hn hke hs hf hN hdf=>?_
    obtain⟨hvb,hex⟩:=hr ρ _ a hf
    unfold Oper.wp
    rw[hex,Oper.upon_enter]
    refine(hdo ρ w hvb ⟨hs.obj,hs.inj,hs.bd⟩).mono ?_
    rintro e w' ⟨ρ',rfl,hs',hx',hb⟩
    have hx2:Ext ρ h w ρ' ⟨h1.n,h.lo,h1.t⟩ w':=by
     refine⟨hx'.len,rfl,hx'.agree,fun p o hp hg hl=>?_,hx'.os,hx'.tape,hx'.output,hx'.size,fun b hb hno=>hx'.keep b hb fun p o hp hl hlo2=>hno p o hp hl (Nat.le_trans hlo hlo2),fun p hp hq=>hx'.old p (Nat.lt_of_lt_of_le hp hlo) hq,hx'.liv⟩
     rcases hx'.new p o hp hg hl with h3 | ⟨q,o',h3,h4,h5,h6⟩
     ·exact .inl h3
     ·exact .inr ⟨q,o',h3,h4,Nat.le_trans hlo h5,h6⟩
    obtain⟨g1,g2,g3⟩:=hput E ρ' _ a (hf.mono hx2.len hx2.agree) hN hb
    refine⟨⟨ρ',g1,g2,g3.trans hdf,⟨hs'.obj,hs'.inj,hs'.bd⟩,hx2⟩,fun p o hp hl=>?_⟩
    have hpS:=hbd p o hp
    have:=hx'.old p hpS (show p.toNat<h.n.toNat by omega)
    show h1.t.get p=some o
    rw[this];exact hke p o hp hl
theorem flo_run {Y:Ty} (hY:TyOk P Y) (hm:P.follows .mixedOrders=true) {g:Ctx} (hcall:zi E P g.call) {id:Nat} {ops:Array Oper} {bs:List Nat} {ord:List (Bool × Nat)} {ch:List Nat} {q:Nat} {tl:List Nat} (hB:floB ops ord ch q tl=true)
  {l:List (Bool × OI)} (hl:zZ Y N ops.toList ord=some l) {c:List OI} (hc:zY Y N ops.toList (yW ops.toList ch)=some c) {aq:List OI} (haq:zY Y N ops.toList (yW ops.toList [q])=some aq) {t:List OI} (ht:zY Y N ops.toList (yW ops.toList tl)=some t) {fr:Fr} {h:H} {fa:Fa} {k:K2} (hfa:FaOk E fa)
  (hk:jp (.seq (.hops (bs.map zp) l) (.seq (.ops c) (.seq (.ops aq) (.ops t)))) g fr h fa k=0):zeB E P N (.region id ops true) fr h k:=by
 simp only[floB,Bool.and_eq_true,decide_eq_true_eq,Bool.not_eq_true']at hB
 obtain⟨⟨⟨⟨⟨hsel,hlen⟩,hrest⟩,hqD⟩,hal⟩,hgo⟩:=hB
 have hqD:q∉ord.map (·.2):=by simpa [List.contains_iff_mem] using hqD
 have hk:zcN fr (err g 64) (bs.map zp) h (fun hS=>z3 hS l g fr h fa (fun fr h fa=>zaM c g fr h fa (fun fr h fa=>zaM aq g fr h fa (fun fr h fa=>zaM t g fr h fa (fun fr h fa=>k .normal fr h fa)))))=0:=hk
 -- the operation that makes the thing
 cases hoq:ops[q]? with
 | none=>simp[zl5,hoq]at hal
 | some oq=>
 simp only[zl5,hoq,Bool.and_eq_true]at hal
 obtain⟨⟨hgd,hds⟩,hop⟩:=hal
 have hgd:oq.guard=none:=by simpa using hgd
 have hnq:nth ops.toList q=some oq:=by rw[zX,Array.getElem?_toList];exact hoq
 simp only[yW,hnq]at haq
 obtain⟨x,l0,hx,hl0,rfl⟩:=zaj haq
 simp[zY]at hl0;subst hl0
 obtain⟨d,gg,hd,hg,hxx⟩:=z8 hx
 cases hopq:oq.op with
 | alloc ty=>
  rcases hxx with ⟨ii,hi,rfl⟩ | ⟨cl,f0,f,ll,hop2,_⟩
  rotate_left
  ·rw[hopq]at hop2;cases hop2
  rw[hopq]at hi
  simp only[cOp]at hi
  cases hz:(Y.ti ty).zero with
  | none=>rw[hz]at hi;cases hi
  | some z=>
   rw[hz]at hi
   have hi:IOp.new ty z=ii:=by simpa using hi
   subst hi
   obtain⟨zs,hzs,hzb,hz1,hrun⟩:∃ zs:Array Value,(∀ ρ,(γL E ρ z).toArray=zs)/\bdL 0 z/\yP V.one z=true/\∀ (a:Act) (w:World),(execOp a.eval oq).run P w=.ok (.value (.pointer (some ⟨w.heap.size,0,none⟩))) (w.alloc (.cells zs ty)):=by
    refine⟨(γL E (fun _=>⟨0,0⟩) z).toArray,fun ρ=>?_,?_,?_,fun a w=>?_⟩
    ·obtain⟨x,hx,he,hb,_⟩:=zaB (E:=E) (w:=default) hY.ti hz ρ
     rw[γL_agree E (n:=0) (fun i hi=>absurd hi (Nat.not_lt_zero _)) z hb]
    ·obtain⟨x,hx,he,hb,_⟩:=zaB (E:=E) (w:=default) hY.ti hz (fun _=>⟨0,0⟩)
     exact hb
    ·obtain⟨x,hx,he,hb,_,_,h1⟩:=zaB (E:=E) (w:=default) hY.ti hz (fun _=>⟨0,0⟩)
     exact h1
    ·obtain⟨x,hx1,he,hb,_⟩:=zaB (E:=E) (w:=w) hY.ti hz (fun _=>⟨0,0⟩)
     rw[<- he]
     simp[execOp,hopq,Instr.alloc,hx1,newVar,newRow,jx]
   have mq:MakesQ P ops q oq (.cells zs ty) (fun b=>.pointer (some ⟨b,0,none⟩)):=⟨hoq,hgd,hrun⟩
   have hgg:gg=none:=by
    rw[hgd]at hg
    simp[zbt]at hg
    exact hg.symm
   subst hgg
   cases hdq:oq.dst with
   | none=>simp[hdq]at hds
   | some dq=>
   obtain⟨hS,hk,hSn,hke,hSat⟩:=za8 (zl _ _) bs h _ hk
   obtain⟨fr1,h1,fa1,hk1,hfa1,hr⟩:=zd5 hY hcall hsel mq hdq (ch:=ch) (tl:=tl) hrest hqD ord l fr h fa hl hfa hk
   obtain⟨fr2,h2,fa2,hk2,hfa2,hch⟩:=zc4 hY hcall hsel mq hdq (tl:=tl) ch c fr1 h1 fa1 hc hfa1 hk1
   -- the thing,as the evaluator makes it
   have hk2:eNew ty z fr2 h2 (fun v h=>yI d fa2 v fr2 (fun fr=>zaM t g fr h fa2 (fun fr h fa=>k .normal fr h fa))) (err g (yu (.new ty z)))=0:=hk2
   unfold eNew zf8 at hk2
   rw[hz1]at hk2
   have hk2:zas h2 (.cells ty z) (fun n h=>yI d fa2 (.ptr n 0) fr2 (fun fr=>zaM t g fr h fa2 (fun fr h fa=>k .normal fr h fa)))=0:=hk2
   rw[ji]at hk2
   obtain⟨fr3,hk3,hput⟩:=zP hfa2 hd hk2
   obtain⟨fr4,h4,fa4,hk4,hfa4,hchain⟩:=zaW hY hcall tl t fr3 (h2.add (.cells ty z)) fa2 ht hfa2 hk3
   refine⟨.normal,fr4,h4,fa4,hk4,hfa4,fun {DS} ρ w a QQ hs hf hN hd hQ=>?_⟩
   have hs1:Sat E ρ h { w with drawn:=w.drawn+1 }:=⟨hs.obj,hs.inj,hs.bd⟩
   have hx1:Ext ρ h w ρ h { w with drawn:=w.drawn+1 }:=jG hs
   refine Go.wp_mono (Q:=fun e a' w'=>e=.normal/\At E N DS ρ h w fr4 h4 a' w') (EvQ.wp_region_T (S:=Sat E ρ hS) (D:=ord.map (·.2)) hm ?_) (fun e a' w' ⟨he,hA⟩=>by rw[he];exact hQ a' w' hA)
   have key:=hr none (Array.replicate ops.size false) hgo (EvQ.Closed.none _) w.heap.size ρ ρ { w with drawn:=w.drawn+1 } a (fun e a' w'=>e=.normal/\At E N DS ρ h w fr4 h4 a' w') (Nat.le_refl _) (by rw[hSn];exact Nat.le_refl _) hke (hSat E ρ _ _ hf hs1) (fun _ _=>rfl) hs1 hf hN hd trivial (fun c a w hh=>(by cases hh.1)) (by
    rintro lq' a' w' L ⟨ρ1,f1,n1,d1,s1,x1,c1⟩ hchF
    refine hch lq' L hchF w.heap.size ρ1 w' a' _ x1.size s1 f1 n1 d1 c1 (fun c a w hh=>(by cases hh.1)) ?_
    rintro b a2 w2 L2 ⟨ρ2,f2,n2,d2,s2,x2,c2⟩ hcB
    obtain⟨cc1,cc2,cc3⟩:=c2
    have hbz:O.bd h2.n.toNat (.cells ty z):=yO (Nat.zero_le _) z hzb
    have s3:=zb9 s2 (.cells ty z) hbz ⟨b,0⟩ cc3 (by show w2.heap[b]? = _;rw[hzs];exact cc1)
    have x3:=zci ((hx1.trans x1).trans x2) (fun p o hp=>(s2.bd p o hp).1) (.cells ty z) ⟨b,0⟩ cc2
    have hpt:V.γ E (jP ρ2 h2.n ⟨b,0⟩) (.ptr h2.n 0)=.pointer (some ⟨b,0,none⟩):=by simp[V.γ,yQ]
    obtain⟨g1,g2,g3⟩:=hput (jP ρ2 h2.n ⟨b,0⟩) (h2.add (.cells ty z)).n.toNat a2 (f2.mono (by simp[H.add]) (fun i hi=>zao ρ2 _ hi)) n2 (by simp[V.bd,H.add])
    rw[hpt]at g1 g2 g3
    exact hchain L2 hcB _ w2 _ _ s3 g1 g2 (g3.trans d2) (fun a' w' hA=>⟨rfl,hA.trans x3⟩))
   have e:jF none (tl.length+ch.length+ord.length)=ops.size:=hlen
   rw[e]at key
   exact key
 | _=>simp[hopq]at hop
theorem zwz {fr:Fr} {h:H} {e:Nat} (he:e≠0) {k:List Ev.P->H->Nat}:∀ (ks:List Ky) (ids:List Ev.P) (hS:H),hS.n=h.n->(∀ p o,hS.t.get p=some o->p∈ids/\h.t.get p=some o)->yC zt0 (zt1 fr h e) ks ids hS k=0 ->
  ∃ ids hS,k ids hS=0/\hS.n=h.n/\∀ p o,hS.t.get p=some o->p∈ids/\h.t.get p=some o
 | [],ids,hS,hn,hi,hk=>⟨ids,hS,hk,hn,hi⟩
 | s::r,ids,hS,hn,hi,hk=>by
  have hk:zak (fr.get s) (fun id _=>oc (ya h id) (fun o=>jL hS id o (fun hS=>yC zt0 (zt1 fr h e) r (id::ids) hS k)) e) (vSl (fr.get s) (fun id _ _=>oc (ya h id) (fun o=>jL hS id o (fun hS=>yC zt0 (zt1 fr h e) r (id::ids) hS k)) e) e)=0:=hk
  have inner:∀ id:Ev.P,oc (ya h id) (fun o=>jL hS id o (fun hS=>yC zt0 (zt1 fr h e) r (id::ids) hS k)) e=0->∃ ids hS,k ids hS=0/\hS.n=h.n/\∀ p o,hS.t.get p=some o->p∈ids/\h.t.get p=some o:=by
   intro id hk
   obtain⟨o,ho,hk⟩:=zA hk he
   rw[zJ]at ho
   rw[y9]at hk
   refine zwz he r (id::ids) (hS.put id o) hn (fun p o' hp=>?_) hk
   simp only[H.put,get_set]at hp
   split at hp
   ·rename_i e
    have:=P.toNat_inj e
    subst this
    cases hp
    exact⟨List.mem_cons_self ..,ho⟩
   ·obtain⟨h1,h2⟩:=hi p o' hp
    exact⟨List.mem_cons_of_mem _ h1,h2⟩
  unfold zak at hk
  split at hk
  ·exact inner _ hk
  ·obtain⟨_,id,_,_,_,hk,_⟩:=vSl_ok hk he
   exact inner _ hk
theorem zdD {fr:Fr} {h:H} {e:Nat} (he:e≠0) {k:List Ev.P->H->Nat} (ks:List Ky) (hk:zfF fr h e ks k=0) :
  ∃ ids hS,k ids hS=0/\hS.n=h.n/\(∀ p o,hS.t.get p=some o->p∈ids)/\yr hS h/\∀ (E:Env) ρ w,Sat E ρ h w->Sat E ρ hS w:=by
 unfold zfF at hk
 rw[jX]at hk
 obtain⟨ids,hS,h1,h2,h3⟩:=zwz (h:=h) (fr:=fr) (k:=k) he ks [] ⟨h.n,h.lo,.e⟩ rfl (fun p o hp=>by
  have:(PT.e:PT O).get p=none:=by cases p <;> rfl
  rw[show (⟨h.n,h.lo,.e⟩:H).t=PT.e from rfl,this]at hp;cases hp) hk
 refine⟨ids,hS,h1,h2,fun p o hp=>(h3 p o hp).1,fun p o hp _=>(h3 p o hp).2,fun E ρ w s=>⟨fun p o hp=>s.obj p o (h3 p o hp).2,fun p q o o' hp hq l1 l2 he=>s.inj p q o o' (h3 p o hp).2 (h3 q o' hq).2 l1 l2 he,fun p o hp=>by rw[h2];exact s.bd p o (h3 p o hp).2⟩⟩
theorem ziO {hS h1:H}:∀ (ids:List Ev.P),zat ids hS h1=true->∀ p∈ids,hS.t.get p=h1.t.get p
 | [],_,p,hp=>by cases hp
 | id::r,hb,p,hp=>by
  obtain⟨h2,h3⟩:zaH (ya hS id) (ya h1 id)=true/\zat r hS h1=true:=by
   have hb:bc (zaH (ya hS id) (ya h1 id)) (zat r hS h1) false=true:=hb
   cases hh:zaH (ya hS id) (ya h1 id) <;> rw[hh]at hb
   ·cases hb
   ·exact⟨rfl,hb⟩
  rcases List.mem_cons.1 hp with rfl | hp
  ·have:=jD h2
   rw[zJ,zJ]at this;exact this
  ·exact ziO r h3 p hp
theorem jW {ids:List Ev.P} {hS h1:H} (hids:∀ p o,hS.t.get p=some o->p∈ids) (hb:zat ids hS h1=true):yr hS h1:=fun p o hp _=>by
 rw[<- ziO ids hb p (hids p o hp)];exact hp
theorem zbf {ops:Array Oper} {QQ:Exit->Act->World->Prop} {i:Nat} {o:Oper} {K:Act->World->Prop} {a:Act} {w:World} (ho:ops[i]? = some o) (hw:Region.wanted o (yielded ops a.tmps)=true) (h:o.wp P a w K QQ):wpOp P ops QQ i K a w:=by
 unfold wpOp
 simp only[ho]
 rw[if_pos hw]
 exact .inl h
theorem zaE {ops:Array Oper} {QQ:Exit->Act->World->Prop} {i:Nat} {o:Oper} {K:Act->World->Prop} {a:Act} {w:World} (ho:ops[i]? = some o) (hw:Region.wanted o (yielded ops a.tmps)=false) (h:K (a.put o.dst undef) w):wpOp P ops QQ i K a w:=by
 unfold wpOp
 simp only[ho]
 rw[if_neg (by rw[hw];simp)]
 exact h
theorem zdO {ops:Array Oper} {QQ:Exit->Act->World->Prop} {i:Nat} {K K':Act->World->Prop} {a:Act} {w:World} (h:wpOp P ops QQ i K a w) (hk:∀ a1 w1,K a1 w1->K' a1 w1):wpOp P ops QQ i K' a w:=wpOp_mono (fun a' w' h'=>hk a' w' h') h
theorem zcz {Y:Ty} (hY:TyOk P Y) {g:Ctx} (hcall:zi E P g.call) {ops:Array Oper} (hsel:Region.noSelect ops=true) {ids:List Ev.P} {hS:H} (hids:∀ p o,hS.t.get p=some o->p∈ids) {k:K1}:∀ (ord:List (Bool × Nat)) (l:List (Bool × OI)) (fr:Fr) (h:H) (fa:Fa),
  zZ Y N ops.toList ord=some l->FaOk E fa->yk ids hS l g fr h fa k=0 ->
  ∃ fr' h' fa',k fr' h' fa'=0/\FaOk E fa'/\∀ listed,jo ops ord listed=true->∀ {DS:List Deferred} ρ0 ρ w a QQ,hS.n.toNat<=h.n.toNat->yr hS h->Sat E ρ0 hS w->(∀ p:Ev.P,p.toNat<hS.n.toNat->ρ p=ρ0 p)->Sat E ρ h w->zw E ρ h.n.toNat fr (a:Act).tmps->N<=a.tmps.size->a.defers=DS ->
   (∀ c a w,¬ QQ (.panic c) a w)->(∀ a' w',At E N DS ρ h w fr' h' a' w'->QQ .normal a' w')->wpAnyH P .any ops QQ (Sat E ρ0 hS) ord.length listed a w
 | [],l,fr,h,fa,hl,hfa,hk=>by
  simp[zZ]at hl;subst hl
  exact⟨fr,h,fa,hk,hfa,fun listed hB {DS} ρ0 ρ w a QQ hn hke hs0 ha hs hf hN hd hp hq=>wpAnyH_done (by simpa [jo] using hB) (hq a w ⟨ρ,hf,hN,hd,hs,hs.refl E⟩) _⟩
 | (true,i)::r,l,fr,h,fa,hl,hfa,hk=>by
  obtain⟨o,x,l2,ho,hx,hl2,rfl⟩:=yf hl
  rw[zX,Array.getElem?_toList]at ho
  have hk:OI.go qOp hNo x g fr hS fa (fun fr _ fa=>yk ids hS l2 g fr h fa k)=0:=hk
  obtain⟨d,gg,hd,hg,hxx⟩:=z8 hx
  rcases hxx with ⟨ii,hi,rfl⟩ | ⟨cl,f0,f,ll,hop,hcal,hf0,hll,rfl⟩
  rotate_left
  ·exact absurd (show err g 63=0 from hk) (zl _ _)
  have hk:qOp d gg ii g fr hS fa (fun fr _ fa=>yk ids hS l2 g fr h fa k)=0:=hk
  rcases yE hg hfa hk with ⟨fa1,hfa1,hk,hw⟩ | ⟨fa1,hfa1,hk,hw⟩
  ·obtain⟨hst,hk⟩:=zn hk (zl _ _)
   obtain⟨v,h',hk,hrun⟩:=yh hY hi hst hk (zl _ _)
   obtain⟨fr1,hk,hput⟩:=zP hfa1 hd hk
   obtain⟨fr2,h2,fa2,hk2,hfa2,hr2⟩:=zcz hY hcall hsel hids r l2 fr1 h fa1 hl2 hfa1 hk
   refine⟨fr2,h2,fa2,hk2,hfa2,fun listed hB {DS} ρ0 ρ w a QQ hn hke hs0 ha hs hf hN hdf hp hq=>?_⟩
   have conv:∀ w,Sat E ρ0 hS w->Sat E ρ hS w:=fun w s=>y6 (ρ0:=ρ) (h:=hS) ⟨fun p o hp=>O.Is_agree E (fun i hi=>ha i hi) (s.bd p o hp).2 (by rw[ha p (s.bd p o hp).1];exact s.obj p o hp),
    fun p q o o' hp hq l1 l2 he=>s.inj p q o o' hp hq l1 l2 (by rw[<- ha p (s.bd p o hp).1,<- ha q (s.bd q o' hq).1];exact he),s.bd⟩ s (fun p o hp _=>hp) (fun p hp=>(ha p hp).symm)
   simp only[jo,Bool.and_eq_true,decide_eq_true_eq]at hB
   obtain⟨⟨⟨hlt,hfree⟩,hready⟩,hB⟩:=hB
   obtain⟨g1,g2,g3⟩:=hput ρ _ a hf hN (hrun E ρ _ a w hn hf (conv w hs0)).2
   refine wpAnyH_take (i:=i) ho hsel hfree hready (fun c a w hh=>absurd hh (hp c _ w)) (.inl ⟨hw ρ _ a hf,fun w' hw'=>(hrun E ρ _ a w' hn hf (conv w' hw')).1⟩) hs0 ?_
   exact hr2 _ hB ρ0 ρ w _ QQ hn hke hs0 ha hs g1 g2 (g3.trans hdf) hp hq
  ·obtain⟨fr1,hk,hput⟩:=z7 hd hk
   obtain⟨fr2,h2,fa2,hk2,hfa2,hr2⟩:=zcz hY hcall hsel hids r l2 fr1 h fa1 hl2 hfa1 hk
   refine⟨fr2,h2,fa2,hk2,hfa2,fun listed hB {DS} ρ0 ρ w a QQ hn hke hs0 ha hs hf hN hdf hp hq=>?_⟩
   simp only[jo,Bool.and_eq_true,decide_eq_true_eq]at hB
   obtain⟨⟨⟨hlt,hfree⟩,hready⟩,hB⟩:=hB
   obtain⟨g1,g2,g3⟩:=hput E ρ h.n.toNat a hf hN (by trivial)
   refine wpAnyH_take (i:=i) ho hsel hfree hready (fun c a w hh=>absurd hh (hp c _ w)) (.inr ⟨hw ρ _ a hf,rfl⟩) hs0 ?_
   exact hr2 _ hB ρ0 ρ w _ QQ hn hke hs0 ha hs g1 g2 (g3.trans hdf) hp hq
 | (false,i)::r,l,fr,h,fa,hl,hfa,hk=>by
  obtain⟨o,x,l2,ho,hx,hl2,rfl⟩:=yf hl
  rw[zX,Array.getElem?_toList]at ho
  have hk:OI.go (kOp ids hS) (zt2 ids hS) x g fr h fa (fun fr h fa=>yk ids hS l2 g fr h fa k)=0:=hk
  obtain⟨d,gg,hd,hg,hxx⟩:=z8 hx
  have one:∀ fr1 h1 fa1,FaOk E fa1->yk ids hS l2 g fr1 h1 fa1 k=0 ->
    (∀ {DS:List Deferred} ρ w a QQ,(∀ p o,hS.t.get p=some o->p.toNat<hS.n.toNat)->hS.n.toNat<=h.n.toNat->yr hS h->Sat E ρ h w->zw E ρ h.n.toNat fr (a:Act).tmps->N<=a.tmps.size->a.defers=DS->wpOp P ops QQ i (fun a1 w1=>At E N DS ρ h w fr1 h1 a1 w1/\yr hS h1) a w) ->
    ∃ fr' h' fa',k fr' h' fa'=0/\FaOk E fa'/\∀ listed,jo ops ((false,i)::r) listed=true->∀ {DS:List Deferred} ρ0 ρ w a QQ,hS.n.toNat<=h.n.toNat->yr hS h->Sat E ρ0 hS w->(∀ p:Ev.P,p.toNat<hS.n.toNat->ρ p=ρ0 p)->Sat E ρ h w->zw E ρ h.n.toNat fr (a:Act).tmps->N<=a.tmps.size->a.defers=DS ->
     (∀ c a w,¬ QQ (.panic c) a w)->(∀ a' w',At E N DS ρ h w fr' h' a' w'->QQ .normal a' w')->wpAnyH P .any ops QQ (Sat E ρ0 hS) ((false,i)::r).length listed a w:=by
   intro fr1 h1 fa1 hfa1 hk1 hstep
   obtain⟨fr2,h2,fa2,hk2,hfa2,hr2⟩:=zcz hY hcall hsel hids r l2 fr1 h1 fa1 hl2 hfa1 hk1
   refine⟨fr2,h2,fa2,hk2,hfa2,fun listed hB {DS} ρ0 ρ w a QQ hn hke hs0 ha hs hf hN hdf hp hq=>?_⟩
   simp only[jo,Bool.and_eq_true,decide_eq_true_eq]at hB
   obtain⟨⟨hlt,hready⟩,hB⟩:=hB
   refine wpAnyH_all hready (by simp) fun j hj=>?_
   have hj:j=i:=by simpa using hj
   subst hj
   refine zdO (hstep ρ w a QQ (fun p o hp=>(hs0.bd p o hp).1) hn hke hs hf hN hdf) ?_
   rintro a1 w1 ⟨⟨ρ1,f1,n1,d1,s1,x1⟩,hke1⟩
   have ha1:∀ p:Ev.P,p.toNat<hS.n.toNat->ρ1 p=ρ0 p:=fun p hp=>by rw[x1.agree p (by omega),ha p hp]
   have hs1:Sat E ρ0 hS w1:=y6 hs0 s1 hke1 ha1
   exact⟨hs1,hr2 _ hB ρ0 ρ1 w1 a1 QQ (Nat.le_trans hn x1.len) hke1 hs1 ha1 s1 f1 n1 d1 hp (fun a' w' hA=>hq a' w' (hA.trans x1))⟩
  rcases hxx with ⟨ii,hi,rfl⟩ | ⟨cl,f0,f,ll,hop,hcal,hf0,hll,rfl⟩
  ·have hk:jO g gg fr fa (fun fa=>evI ii fr h (fun v h1=>bc (zat ids hS h1) (yI d fa v fr (fun fr=>yk ids hS l2 g fr h1 fa k)) (err g 68)) (err g (yu ii))) (fun fa=>jC d (.tup []) fr (fun fr=>yk ids hS l2 g fr h fa k))=0:=hk
   rcases yE hg hfa hk with ⟨fa0,hfa0,hk,hw⟩ | ⟨fa0,hfa0,hk,hw⟩
   ·obtain⟨v,h1,hk,hrun⟩:=za7 hY hi hk (zl _ _)
    obtain⟨hkp,hk⟩:=zn hk (zl _ _)
    have hkeep:=jW hids hkp
    obtain⟨fr1,hk,hput⟩:=zP hfa0 hd hk
    refine one fr1 h1 fa0 hfa0 hk fun {DS} ρ w a QQ hbd hn hke hs hf hN hdf=>zbf ho (hw ρ _ a hf) ?_
    obtain⟨ρ',w',nx,hr,hnx,hs',hx',hb⟩:=hrun E ρ a w hf hs
    obtain⟨g1,g2,g3⟩:=hput ρ' _ a (hf.mono hx'.len hx'.agree) hN hb
    unfold Oper.wp
    rw[hr]
    have hgo:At E N DS ρ h w fr1 h1 (a.put o.dst (v.γ E ρ')) w'/\yr hS h1:=⟨⟨ρ',g1,g2,g3.trans hdf,hs',hx'⟩,hkeep⟩
    rcases hnx with rfl | ⟨rfl,rfl⟩
    ·exact hgo
    ·exact hgo
   ·obtain⟨fr1,hk,hput⟩:=z7 hd hk
    refine one fr1 h fa0 hfa0 hk fun {DS} ρ w a QQ hbd hn hke hs hf hN hdf=>zaE ho (hw ρ _ a hf) ?_
    obtain⟨g1,g2,g3⟩:=hput E ρ h.n.toNat a hf hN (by trivial)
    exact⟨⟨ρ,g1,g2,g3.trans hdf,hs,hs.refl E⟩,hke⟩
  ·have hk:jO g gg fr fa (fun fa=>jU f ll g fr h fa (fun v h1 fa=>bc (zat ids hS h1) (jC d v fr (fun fr=>yk ids hS l2 g fr h1 fa k)) (err g 70))) (fun fa=>jC d (.tup []) fr (fun fr=>yk ids hS l2 g fr h fa k))=0:=hk
   rcases yE hg hfa hk with ⟨fa0,hfa0,hk,hw⟩ | ⟨fa0,hfa0,hk,hw⟩
   ·obtain⟨F,vl,v,h1,fa1,hk,hfa1,hr,hdo⟩:=jY hop hcal hf0 hll hcall hfa0 hk
    obtain⟨hkp,hk⟩:=zn hk (zl _ _)
    have hkeep:=jW hids hkp
    obtain⟨fr1,hk,hput⟩:=z7 hd hk
    refine one fr1 h1 fa1 hfa1 hk fun {DS} ρ w a QQ hbd hn hke hs hf hN hdf=>zbf ho (hw ρ _ a hf) ?_
    obtain⟨hvb,hex⟩:=hr ρ _ a hf
    unfold Oper.wp
    rw[hex,Oper.upon_enter]
    refine(hdo ρ w hvb hs).mono ?_
    rintro e w' ⟨ρ',rfl,hs',hx',hb⟩
    obtain⟨g1,g2,g3⟩:=hput E ρ' _ a (hf.mono hx'.len hx'.agree) hN hb
    exact⟨⟨ρ',g1,g2,g3.trans hdf,hs',hx'⟩,hkeep⟩
   ·obtain⟨fr1,hk,hput⟩:=z7 hd hk
    refine one fr1 h fa0 hfa0 hk fun {DS} ρ w a QQ hbd hn hke hs hf hN hdf=>zaE ho (hw ρ _ a hf) ?_
    obtain⟨g1,g2,g3⟩:=hput E ρ h.n.toNat a hf hN (by trivial)
    exact⟨⟨ρ,g1,g2,g3.trans hdf,hs,hs.refl E⟩,hke⟩
theorem zxY {Y:Ty} (hY:TyOk P Y) (hm:P.follows .mixedOrders=true) {g:Ctx} (hcall:zi E P g.call) {id:Nat} {ops:Array Oper} {ks:List Nat} {ord:List (Bool × Nat)} (hB:ziT ops ord=true)
  {l:List (Bool × OI)} (hl:zZ Y N ops.toList ord=some l) {fr:Fr} {h:H} {fa:Fa} {k:K2} (hfa:FaOk E fa) (hk:cKops (ks.map zp) l g fr h fa k=0):zeB E P N (.region id ops true) fr h k:=by
 simp only[ziT,Bool.and_eq_true,decide_eq_true_eq]at hB
 obtain⟨⟨hsel,hlen⟩,hgo⟩:=hB
 obtain⟨ids,hS,hk,hSn,hids,hke,hSat⟩:=zdD (zl _ _) (ks.map zp) hk
 obtain⟨fr1,h1,fa1,hk1,hfa1,hr⟩:=zcz hY hcall hsel hids ord l fr h fa hl hfa hk
 refine⟨.normal,fr1,h1,fa1,hk1,hfa1,fun {DS} ρ w a QQ hs hf hN hd hQ=>?_⟩
 have hs1:Sat E ρ h { w with drawn:=w.drawn+1 }:=⟨hs.obj,hs.inj,hs.bd⟩
 have hx1:Ext ρ h w ρ h { w with drawn:=w.drawn+1 }:=jG hs
 refine Go.wp_mono (Q:=fun e a' w'=>e=.normal/\At E N DS ρ h w fr1 h1 a' w') (wp_region_held (S:=Sat E ρ hS) hm ?_) (fun e a' w' ⟨he,hA⟩=>by rw[he];exact hQ a' w' hA)
 have key:=hr _ hgo ρ ρ _ a (fun e a' w'=>e=.normal/\At E N DS ρ h w fr1 h1 a' w') (by rw[hSn];exact Nat.le_refl _) hke (hSat E ρ _ hs1) (fun _ _=>rfl) hs1 hf hN hd (fun c a w hh=>(by cases hh.1)) (fun a' w' hA=>⟨rfl,hA.trans hx1⟩)
 rw[hlen]at key
 exact key
def AtS (E:Env) (N:Nat) (DS:List Deferred) (ob:Obj) (s0:Nat) (ρ0:Rho) (hS:H) (lq:Option Nat) (ρ:Rho) (h:H) (w:World) (fr':Fr) (h':H) (a':Act) (w':World):Prop:=
 ∃ ρ',zw E ρ' h'.n.toNat fr' a'.tmps/\N<=a'.tmps.size/\a'.defers=DS/\Sat E ρ' h' w'/\Ext ρ h w ρ' h' w'/\zc5 ob s0 lq ρ' h' w'/\s0<=w'.heap.size/\hS.n.toNat<=h'.n.toNat/\yr hS h'/\Sat E ρ0 hS w'/\∀ p:Ev.P,p.toNat<hS.n.toNat->ρ' p=ρ0 p
theorem AtS.trans {DS:List Deferred} {ob:Obj} {s0:Nat} {ρ0:Rho} {hS:H} {lq:Option Nat} {ρ ρ1:Rho} {h h1:H} {w w1:World} (hx:Ext ρ h w ρ1 h1 w1) {fr:Fr} {h':H} {a:Act} {w':World} (s:AtS E N DS ob s0 ρ0 hS lq ρ1 h1 w1 fr h' a w'):AtS E N DS ob s0 ρ0 hS lq ρ h w fr h' a w':=by
 obtain⟨ρ',s1,s2,s3,s4,s5,s6⟩:=s
 exact⟨ρ',s1,s2,s3,s4,hx.trans s5,s6⟩
theorem zi6 {Y:Ty} {all:List Oper}:∀ (r:List (Bool × Nat)) {s:List (Bool × Nat)} {l:List (Bool × OI)},zZ Y N all (r ++ s)=some l->∃ l1 l2,zZ Y N all r=some l1/\zZ Y N all s=some l2/\l=l1 ++ l2
 | [],s,l,h=>⟨[],l,rfl,h,rfl⟩
 | (b,i)::r,s,l,h=>by
  obtain⟨o,x,l',h1,h2,h3,rfl⟩:=yf (show zZ Y N all ((b,i)::(r ++ s))=some l from h)
  obtain⟨l1,l2,h4,h5,rfl⟩:=zi6 r h3
  exact⟨(b,x)::l1,l2,by simp only[zZ,h1,h4,h2],h5,rfl⟩
theorem ziM {ids:List Ev.P} {hS:H} {g:Ctx} {k:K1}:∀ (l1 l2:List (Bool × OI)) (fr:Fr) (h:H) (fa:Fa),yk ids hS (l1 ++ l2) g fr h fa k=yk ids hS l1 g fr h fa (fun fr h fa=>yk ids hS l2 g fr h fa k)
 | [],l2,fr,h,fa=>rfl
 | o::r,l2,fr,h,fa=>by
  show kStep ids hS o g fr h fa (fun fr h fa=>yk ids hS (r ++ l2) g fr h fa k)=kStep ids hS o g fr h fa (fun fr h fa=>yk ids hS r g fr h fa (fun fr h fa=>yk ids hS l2 g fr h fa k))
  congr 1
  funext fr h fa
  exact ziM r l2 fr h fa
theorem zd3 {Y:Ty} (hY:TyOk P Y) {g:Ctx} (hcall:zi E P g.call) {ops:Array Oper} (hsel:Region.noSelect ops=true) {q:Nat} {oq:Oper} {ob:Obj} {vl:Nat->Value} (m:MakesQ P ops q oq ob vl) {dq:Tmp} (hdq:oq.dst=some dq) {D tl:List Nat} (hrest:EvQ.restOkQ ops D q=true) (hqD:q∉D) {ids:List Ev.P} {hS:H} (hids:∀ p o,hS.t.get p=some o->p∈ids) {k:K1} :
  ∀ (ord:List (Bool × Nat)) (l:List (Bool × OI)) (fr:Fr) (h:H) (fa:Fa),zZ Y N ops.toList ord=some l->FaOk E fa->yk ids hS l g fr h fa k=0 ->
  ∃ fr' h' fa',k fr' h' fa'=0/\FaOk E fa'/\∀ (lq:Option Nat) L,goK ops D q tl ord L=true->EvQ.Closed ops (ju q lq L)->∀ {DS:List Deferred} s0 ρ0 ρ w a QQ,s0<=w.heap.size->hS.n.toNat<=h.n.toNat->yr hS h->Sat E ρ0 hS w->(∀ p:Ev.P,p.toNat<hS.n.toNat->ρ p=ρ0 p)->Sat E ρ h w->zw E ρ h.n.toNat fr (a:Act).tmps->N<=a.tmps.size->a.defers=DS->zc5 ob s0 lq ρ h w ->
   (∀ c a w,¬ QQ (.panic c) a w)->(∀ lq' a' w' L',AtS E N DS ob s0 ρ0 hS lq' ρ h w fr' h' a' w'->endF ops D q tl L'=true->EvQ.wpAnyT P ops QQ (Sat E ρ0 hS) D (jF lq' tl.length) (ju q lq' L') (jR vl oq.dst lq' a') w') ->
   EvQ.wpAnyT P ops QQ (Sat E ρ0 hS) D (jF lq (tl.length+ord.length)) (ju q lq L) (jR vl oq.dst lq a) w
 | [],l,fr,h,fa,hl,hfa,hk=>by
  simp[zZ]at hl;subst hl
  refine⟨fr,h,fa,hk,hfa,fun lq L hB hcl {DS} s0 ρ0 ρ w a QQ h0 hn hke hs0 ha hs hf hN hd hc hp hq=>?_⟩
  exact hq lq a w L ⟨ρ,hf,hN,hd,hs,hs.refl E,hc,h0,hn,hke,hs0,ha⟩ hB
 | (true,i)::r,l,fr,h,fa,hl,hfa,hk=>by
  obtain⟨o,x,l2,ho,hx,hl2,rfl⟩:=yf hl
  rw[zX,Array.getElem?_toList]at ho
  have hk:OI.go qOp hNo x g fr hS fa (fun fr _ fa=>yk ids hS l2 g fr h fa k)=0:=hk
  obtain⟨d,gg,hd,hg,hxx⟩:=z8 hx
  rcases hxx with ⟨ii,hi,rfl⟩ | ⟨cl,f0,f,ll,hop,hcal,hf0,hll,rfl⟩
  rotate_left
  ·exact absurd (show err g 63=0 from hk) (zl _ _)
  have hk:qOp d gg ii g fr hS fa (fun fr _ fa=>yk ids hS l2 g fr h fa k)=0:=hk
  have fin:∀ fr1 fa1,FaOk E fa1->yk ids hS l2 g fr1 h fa1 k=0->(∀ ρ0 ρ w a,hS.n.toNat<=h.n.toNat->(∀ p:Ev.P,p.toNat<hS.n.toNat->ρ p=ρ0 p)->Sat E ρ0 hS w->zw E ρ h.n.toNat fr (a:Act).tmps->N<=a.tmps.size ->
     ∃ v,YieldsIf P ops (Sat E ρ0 hS) o v a/\zw E ρ h.n.toNat fr1 (a.put o.dst v).tmps/\N<=(a.put o.dst v).tmps.size/\(a.put o.dst v).defers=a.defers) ->
    ∃ fr' h' fa',k fr' h' fa'=0/\FaOk E fa'/\∀ (lq:Option Nat) L,goK ops D q tl ((true,i)::r) L=true->EvQ.Closed ops (ju q lq L)->∀ {DS:List Deferred} s0 ρ0 ρ w a QQ,s0<=w.heap.size->hS.n.toNat<=h.n.toNat->yr hS h->Sat E ρ0 hS w->(∀ p:Ev.P,p.toNat<hS.n.toNat->ρ p=ρ0 p)->Sat E ρ h w->zw E ρ h.n.toNat fr (a:Act).tmps->N<=a.tmps.size->a.defers=DS->zc5 ob s0 lq ρ h w ->
     (∀ c a w,¬ QQ (.panic c) a w)->(∀ lq' a' w' L',AtS E N DS ob s0 ρ0 hS lq' ρ h w fr' h' a' w'->endF ops D q tl L'=true->EvQ.wpAnyT P ops QQ (Sat E ρ0 hS) D (jF lq' tl.length) (ju q lq' L') (jR vl oq.dst lq' a') w') ->
     EvQ.wpAnyT P ops QQ (Sat E ρ0 hS) D (jF lq (tl.length+((true,i)::r).length)) (ju q lq L) (jR vl oq.dst lq a) w:=by
   intro fr1 fa1 hfa1 hk1 hy
   obtain⟨fr2,h2,fa2,hk2,hfa2,hr2⟩:=zd3 hY hcall hsel m hdq hrest hqD hids r l2 fr1 h fa1 hl2 hfa1 hk1
   refine⟨fr2,h2,fa2,hk2,hfa2,fun lq L hB hcl {DS} s0 ρ0 ρ w a QQ h0 hn hke hs0 ha hs hf hN hdf hc hp hq=>?_⟩
   simp only[goK,Bool.and_eq_true]at hB
   obtain⟨⟨⟨⟨hD,hap⟩,hfr1,hrd1⟩,hfr2,hrd2⟩,hB⟩:=hB
   have hap':=zbB m.at_ ho hap
   have hne:=zfZ m.at_ hdq hap
   obtain⟨v,hyy,g1,g2,g3⟩:=hy ρ0 ρ w a hn ha hs0 hf hN
   have hready:(Region.ready .any ops (ju q lq L)).contains i=true:=by cases lq <;> assumption
   have hfree:Region.free .any ops (ju q lq L) i=true:=by cases lq <;> assumption
   rw[show tl.length+((true,i)::r).length=tl.length+r.length+1 from rfl,ziV]
   refine EvQ.T_takeQ hrest hqD (fun a w K hs h=>m.keeps a w K hs h) hcl (i:=i) ho (by simpa using hD) hsel hfree hready (fun c a w hh=>absurd hh (hp c _ w)) (zeZ hap' (fun cs b=>Region.noSelect_spec hsel i o cs b ho) hyy) hs0 ?_
   rw[zuD hap']
   have hcl2:=hcl.add (show i∈Region.ready .any ops (ju q lq L) by simpa using hready)
   rw[zcd hne]at hcl2 ⊢
   exact hr2 lq _ hB hcl2 s0 ρ0 ρ w _ QQ h0 hn hke hs0 ha hs g1 g2 (g3.trans hdf) hc hp hq
  rcases yE hg hfa hk with ⟨fa1,hfa1,hk,hw⟩ | ⟨fa1,hfa1,hk,hw⟩
  ·obtain⟨hst,hk⟩:=zn hk (zl _ _)
   obtain⟨v,h',hk,hrun⟩:=yh hY hi hst hk (zl _ _)
   obtain⟨fr1,hk,hput⟩:=zP hfa1 hd hk
   refine fin fr1 fa1 hfa1 hk fun ρ0 ρ w a hn ha hs0 hf hN=>?_
   have conv:∀ w,Sat E ρ0 hS w->Sat E ρ hS w:=fun w s=>y6 (ρ0:=ρ) (h:=hS) ⟨fun p o hp=>O.Is_agree E (fun i hi=>ha i hi) (s.bd p o hp).2 (by rw[ha p (s.bd p o hp).1];exact s.obj p o hp),
    fun p q o o' hp hq l1 l2 he=>s.inj p q o o' hp hq l1 l2 (by rw[<- ha p (s.bd p o hp).1,<- ha q (s.bd q o' hq).1];exact he),s.bd⟩ s (fun p o hp _=>hp) (fun p hp=>(ha p hp).symm)
   obtain⟨g1,g2,g3⟩:=hput ρ _ a hf hN (hrun E ρ _ a w hn hf (conv w hs0)).2
   exact⟨_,.inl ⟨hw ρ _ a hf,fun w' hw'=>(hrun E ρ _ a w' hn hf (conv w' hw')).1⟩,g1,g2,g3⟩
  ·obtain⟨fr1,hk,hput⟩:=z7 hd hk
   refine fin fr1 fa1 hfa1 hk fun ρ0 ρ w a hn ha hs0 hf hN=>?_
   obtain⟨g1,g2,g3⟩:=hput E ρ h.n.toNat a hf hN (by trivial)
   exact⟨_,.inr ⟨hw ρ _ a hf,rfl⟩,g1,g2,g3⟩
 | (false,i)::r,l,fr,h,fa,hl,hfa,hk=>by
  obtain⟨o,x,l2,ho,hx,hl2,rfl⟩:=yf hl
  rw[zX,Array.getElem?_toList]at ho
  have hk:OI.go (kOp ids hS) (zt2 ids hS) x g fr h fa (fun fr h fa=>yk ids hS l2 g fr h fa k)=0:=hk
  obtain⟨d,gg,hd,hg,hxx⟩:=z8 hx
  have one:∀ fr1 h1 fa1,FaOk E fa1->yk ids hS l2 g fr1 h1 fa1 k=0 ->
    (∀ {DS:List Deferred} ρ w a QQ,(∀ p o,hS.t.get p=some o->p.toNat<hS.n.toNat)->hS.n.toNat<=h.n.toNat->yr hS h->Sat E ρ h w->zw E ρ h.n.toNat fr (a:Act).tmps->N<=a.tmps.size->a.defers=DS->wpOp P ops QQ i (fun a1 w1=>At E N DS ρ h w fr1 h1 a1 w1/\yr hS h1) a w) ->
    ∃ fr' h' fa',k fr' h' fa'=0/\FaOk E fa'/\∀ (lq:Option Nat) L,goK ops D q tl ((false,i)::r) L=true->EvQ.Closed ops (ju q lq L)->∀ {DS:List Deferred} s0 ρ0 ρ w a QQ,s0<=w.heap.size->hS.n.toNat<=h.n.toNat->yr hS h->Sat E ρ0 hS w->(∀ p:Ev.P,p.toNat<hS.n.toNat->ρ p=ρ0 p)->Sat E ρ h w->zw E ρ h.n.toNat fr (a:Act).tmps->N<=a.tmps.size->a.defers=DS->zc5 ob s0 lq ρ h w ->
     (∀ c a w,¬ QQ (.panic c) a w)->(∀ lq' a' w' L',AtS E N DS ob s0 ρ0 hS lq' ρ h w fr' h' a' w'->endF ops D q tl L'=true->EvQ.wpAnyT P ops QQ (Sat E ρ0 hS) D (jF lq' tl.length) (ju q lq' L') (jR vl oq.dst lq' a') w') ->
     EvQ.wpAnyT P ops QQ (Sat E ρ0 hS) D (jF lq (tl.length+((false,i)::r).length)) (ju q lq L) (jR vl oq.dst lq a) w:=by
   intro fr1 h1 fa1 hfa1 hk1 hstep
   obtain⟨fr2,h2,fa2,hk2,hfa2,hr2⟩:=zd3 hY hcall hsel m hdq hrest hqD hids r l2 fr1 h1 fa1 hl2 hfa1 hk1
   refine⟨fr2,h2,fa2,hk2,hfa2,?_⟩
   have zdf:∀ (lq:Option Nat) L,goK ops D q tl ((false,i)::r) L=true->i∈Region.ready .any ops (ju q lq L)->EvQ.Closed ops (ju q lq L)->∀ {DS:List Deferred} s0 ρ0 ρ w a QQ,s0<=w.heap.size->hS.n.toNat<=h.n.toNat->yr hS h->Sat E ρ0 hS w->(∀ p:Ev.P,p.toNat<hS.n.toNat->ρ p=ρ0 p)->Sat E ρ h w->zw E ρ h.n.toNat fr (a:Act).tmps->N<=a.tmps.size->a.defers=DS->zc5 ob s0 lq ρ h w ->
     (∀ c a w,¬ QQ (.panic c) a w)->(∀ lq' a' w' L',AtS E N DS ob s0 ρ0 hS lq' ρ h w fr2 h2 a' w'->endF ops D q tl L'=true->EvQ.wpAnyT P ops QQ (Sat E ρ0 hS) D (jF lq' tl.length) (ju q lq' L') (jR vl oq.dst lq' a') w') ->
     wpOp P ops QQ i (fun a' w'=>Sat E ρ0 hS w'/\EvQ.wpAnyT P ops QQ (Sat E ρ0 hS) D (jF lq (tl.length+r.length)) ((ju q lq L).setIfInBounds i true) a' w') (jR vl oq.dst lq a) w:=by
    intro lq L hB hir hcl DS s0 ρ0 ρ w a QQ h0 hn hke hs0 ha hs hf hN hdf hc hp hq
    simp only[goK,Bool.and_eq_true,decide_eq_true_eq]at hB
    obtain⟨⟨⟨⟨hD,hap⟩,hready⟩,hready2⟩,hB⟩:=hB
    have hne:=zfZ m.at_ hdq hap
    refine zlL ho (zbB m.at_ ho hap) (fun cs b=>Region.noSelect_spec hsel i o cs b ho) hp ?_
    refine zdO (hstep ρ w a QQ (fun p o hp=>(hs0.bd p o hp).1) hn hke hs hf hN hdf) ?_
    rintro a1 w1 ⟨⟨ρ1,f1,n1,d1,s1,x1⟩,hke1⟩
    have ha1:∀ p:Ev.P,p.toNat<hS.n.toNat->ρ1 p=ρ0 p:=fun p hp=>by rw[x1.agree p (by omega),ha p hp]
    have hs1:Sat E ρ0 hS w1:=y6 hs0 s1 hke1 ha1
    refine⟨hs1,?_⟩
    have hcl2:=hcl.add hir
    rw[zcd hne]at hcl2 ⊢
    exact hr2 lq _ hB hcl2 s0 ρ0 ρ1 w1 a1 QQ (Nat.le_trans h0 x1.size) (Nat.le_trans hn x1.len) hke1 hs1 ha1 s1 f1 n1 d1 (hc.step x1) hp (fun lq' a' w' L' hA=>hq lq' a' w' L' (hA.trans x1))
   have main:∀ b L,goK ops D q tl ((false,i)::r) L=true->EvQ.Closed ops (L.setIfInBounds q true)->∀ {DS:List Deferred} s0 ρ0 ρ w a QQ,s0<=w.heap.size->hS.n.toNat<=h.n.toNat->yr hS h->Sat E ρ0 hS w->(∀ p:Ev.P,p.toNat<hS.n.toNat->ρ p=ρ0 p)->Sat E ρ h w->zw E ρ h.n.toNat fr (a:Act).tmps->N<=a.tmps.size->a.defers=DS->zcQ ob s0 b ρ h w ->
     (∀ c a w,¬ QQ (.panic c) a w)->(∀ lq' a' w' L',AtS E N DS ob s0 ρ0 hS lq' ρ h w fr2 h2 a' w'->endF ops D q tl L'=true->EvQ.wpAnyT P ops QQ (Sat E ρ0 hS) D (jF lq' tl.length) (ju q lq' L') (jR vl oq.dst lq' a') w') ->
     EvQ.wpAnyT P ops QQ (Sat E ρ0 hS) D (tl.length+r.length+1) (L.setIfInBounds q true) (jR vl oq.dst (some b) a) w:=by
    intro b L hB hcl DS s0 ρ0 ρ w a QQ h0 hn hke hs0 ha hs hf hN hdf hc hp hq
    have hB':=hB
    simp only[goK,Bool.and_eq_true,decide_eq_true_eq]at hB'
    obtain⟨⟨⟨⟨hD,hap⟩,hready⟩,hready2⟩,_⟩:=hB'
    refine EvQ.T_some (i:=i) (by simpa using hD) (by rw[hready2];simp) fun j hj=>?_
    rw[hready2]at hj
    have hj:j=i:=by simpa using hj
    subst hj
    exact zdf (some b) L hB (by show j∈Region.ready .any ops (L.setIfInBounds q true);rw[hready2];simp) hcl s0 ρ0 ρ w a QQ h0 hn hke hs0 ha hs hf hN hdf hc hp hq
   intro lq L hB hcl DS s0 ρ0 ρ w a QQ h0 hn hke hs0 ha hs hf hN hdf hc hp hq
   cases lq with
   | some b=>exact main b L hB hcl s0 ρ0 ρ w a QQ h0 hn hke hs0 ha hs hf hN hdf hc hp hq
   | none=>
    have hB':=hB
    simp only[goK,Bool.and_eq_true,decide_eq_true_eq]at hB'
    obtain⟨⟨⟨⟨hD,hap⟩,hready⟩,hready2⟩,_⟩:=hB'
    obtain⟨hi,hsub⟩:=zdQ hready
    refine EvQ.T_some (fuel:=tl.length+r.length+1) (i:=i) (by simpa using hD) hi fun j hj=>?_
    rcases hsub j hj with rfl | rfl
    ·exact zdf none L hB hi hcl s0 ρ0 ρ w a QQ h0 hn hke hs0 ha hs hf hN hdf hc hp hq
    ·exact m.op ⟨yS hs0 _,main _ L hB (EvQ.Closed.add hcl hj) s0 ρ0 ρ _ a QQ (by simp[zv];omega) hn hke (yS hs0 _) ha (yS hs _) hf hN hdf (zaJ hs h0) hp (fun lq' a' w' L' hA=>hq lq' a' w' L' (hA.trans (zaz hs _)))⟩
  rcases hxx with ⟨ii,hi,rfl⟩ | ⟨cl,f0,f,ll,hop,hcal,hf0,hll,rfl⟩
  ·have hk:jO g gg fr fa (fun fa=>evI ii fr h (fun v h1=>bc (zat ids hS h1) (yI d fa v fr (fun fr=>yk ids hS l2 g fr h1 fa k)) (err g 68)) (err g (yu ii))) (fun fa=>jC d (.tup []) fr (fun fr=>yk ids hS l2 g fr h fa k))=0:=hk
   rcases yE hg hfa hk with ⟨fa0,hfa0,hk,hw⟩ | ⟨fa0,hfa0,hk,hw⟩
   ·obtain⟨v,h1,hk,hrun⟩:=za7 hY hi hk (zl _ _)
    obtain⟨hkp,hk⟩:=zn hk (zl _ _)
    have hkeep:=jW hids hkp
    obtain⟨fr1,hk,hput⟩:=zP hfa0 hd hk
    refine one fr1 h1 fa0 hfa0 hk fun {DS} ρ w a QQ hbd hn hke hs hf hN hdf=>zbf ho (hw ρ _ a hf) ?_
    obtain⟨ρ',w',nx,hr,hnx,hs',hx',hb⟩:=hrun E ρ a w hf hs
    obtain⟨g1,g2,g3⟩:=hput ρ' _ a (hf.mono hx'.len hx'.agree) hN hb
    unfold Oper.wp
    rw[hr]
    have hgo:At E N DS ρ h w fr1 h1 (a.put o.dst (v.γ E ρ')) w'/\yr hS h1:=⟨⟨ρ',g1,g2,g3.trans hdf,hs',hx'⟩,hkeep⟩
    rcases hnx with rfl | ⟨rfl,rfl⟩
    ·exact hgo
    ·exact hgo
   ·obtain⟨fr1,hk,hput⟩:=z7 hd hk
    refine one fr1 h fa0 hfa0 hk fun {DS} ρ w a QQ hbd hn hke hs hf hN hdf=>zaE ho (hw ρ _ a hf) ?_
    obtain⟨g1,g2,g3⟩:=hput E ρ h.n.toNat a hf hN (by trivial)
    exact⟨⟨ρ,g1,g2,g3.trans hdf,hs,hs.refl E⟩,hke⟩
  ·have hk:jO g gg fr fa (fun fa=>jU f ll g fr h fa (fun v h1 fa=>bc (zat ids hS h1) (jC d v fr (fun fr=>yk ids hS l2 g fr h1 fa k)) (err g 70))) (fun fa=>jC d (.tup []) fr (fun fr=>yk ids hS l2 g fr h fa k))=0:=hk
   rcases yE hg hfa hk with ⟨fa0,hfa0,hk,hw⟩ | ⟨fa0,hfa0,hk,hw⟩
   ·obtain⟨F,vl,v,h1,fa1,hk,hfa1,hr,hdo⟩:=jY hop hcal hf0 hll hcall hfa0 hk
    obtain⟨hkp,hk⟩:=zn hk (zl _ _)
    have hkeep:=jW hids hkp
    obtain⟨fr1,hk,hput⟩:=z7 hd hk
    refine one fr1 h1 fa1 hfa1 hk fun {DS} ρ w a QQ hbd hn hke hs hf hN hdf=>zbf ho (hw ρ _ a hf) ?_
    obtain⟨hvb,hex⟩:=hr ρ _ a hf
    unfold Oper.wp
    rw[hex,Oper.upon_enter]
    refine(hdo ρ w hvb hs).mono ?_
    rintro e w' ⟨ρ',rfl,hs',hx',hb⟩
    obtain⟨g1,g2,g3⟩:=hput E ρ' _ a (hf.mono hx'.len hx'.agree) hN hb
    exact⟨⟨ρ',g1,g2,g3.trans hdf,hs',hx'⟩,hkeep⟩
   ·obtain⟨fr1,hk,hput⟩:=z7 hd hk
    refine one fr1 h fa0 hfa0 hk fun {DS} ρ w a QQ hbd hn hke hs hf hN hdf=>zaE ho (hw ρ _ a hf) ?_
    obtain⟨g1,g2,g3⟩:=hput E ρ h.n.toNat a hf hN (by trivial)
    exact⟨⟨ρ,g1,g2,g3.trans hdf,hs,hs.refl E⟩,hke⟩
theorem ziN {Y:Ty} (hY:TyOk P Y) {g:Ctx} (hcall:zi E P g.call) {ops:Array Oper} {D:List Nat} {ids:List Ev.P} {hS:H} (hids:∀ p o,hS.t.get p=some o->p∈ids) {k:K1} :
  ∀ (tl:List Nat) (l:List (Bool × OI)) (fr:Fr) (h:H) (fa:Fa),zZ Y N ops.toList (tl.map (fun i=>(false,i)))=some l->FaOk E fa->yk ids hS l g fr h fa k=0 ->
  ∃ fr' h' fa',k fr' h' fa'=0/\FaOk E fa'/\∀ L,zec ops D tl L=true->∀ {DS:List Deferred} ρ0 ρ w a QQ,hS.n.toNat<=h.n.toNat->yr hS h->Sat E ρ0 hS w->(∀ p:Ev.P,p.toNat<hS.n.toNat->ρ p=ρ0 p)->Sat E ρ h w->zw E ρ h.n.toNat fr (a:Act).tmps->N<=a.tmps.size->a.defers=DS ->
   (∀ a' w',At E N DS ρ h w fr' h' a' w'->QQ .normal a' w')->EvQ.wpAnyT P ops QQ (Sat E ρ0 hS) D tl.length L a w
 | [],l,fr,h,fa,hl,hfa,hk=>by
  simp[zZ]at hl;subst hl
  refine⟨fr,h,fa,hk,hfa,fun L hB {DS} ρ0 ρ w a QQ hn hke hs0 ha hs hf hN hd hq=>?_⟩
  simp only[zec,Bool.and_eq_true]at hB
  exact EvQ.T_done hB.2 (wpAny_done (by simpa using hB.1) (hq a w ⟨ρ,hf,hN,hd,hs,hs.refl E⟩) _)
 | i::r,l,fr,h,fa,hl,hfa,hk=>by
  obtain⟨o,x,l2,ho,hx,hl2,rfl⟩:=yf (show zZ Y N ops.toList ((false,i)::r.map (fun i=>(false,i)))=some l from hl)
  rw[zX,Array.getElem?_toList]at ho
  have hk:OI.go (kOp ids hS) (zt2 ids hS) x g fr h fa (fun fr h fa=>yk ids hS l2 g fr h fa k)=0:=hk
  obtain⟨d,gg,hd,hg,hxx⟩:=z8 hx
  have one:∀ fr1 h1 fa1,FaOk E fa1->yk ids hS l2 g fr1 h1 fa1 k=0 ->
    (∀ {DS:List Deferred} ρ w a QQ,(∀ p o,hS.t.get p=some o->p.toNat<hS.n.toNat)->hS.n.toNat<=h.n.toNat->yr hS h->Sat E ρ h w->zw E ρ h.n.toNat fr (a:Act).tmps->N<=a.tmps.size->a.defers=DS->wpOp P ops QQ i (fun a1 w1=>At E N DS ρ h w fr1 h1 a1 w1/\yr hS h1) a w) ->
    ∃ fr' h' fa',k fr' h' fa'=0/\FaOk E fa'/\∀ L,zec ops D (i::r) L=true->∀ {DS:List Deferred} ρ0 ρ w a QQ,hS.n.toNat<=h.n.toNat->yr hS h->Sat E ρ0 hS w->(∀ p:Ev.P,p.toNat<hS.n.toNat->ρ p=ρ0 p)->Sat E ρ h w->zw E ρ h.n.toNat fr (a:Act).tmps->N<=a.tmps.size->a.defers=DS ->
     (∀ a' w',At E N DS ρ h w fr' h' a' w'->QQ .normal a' w')->EvQ.wpAnyT P ops QQ (Sat E ρ0 hS) D (i::r).length L a w:=by
   intro fr1 h1 fa1 hfa1 hk1 hstep
   obtain⟨fr2,h2,fa2,hk2,hfa2,hr2⟩:=ziN hY hcall hids r l2 fr1 h1 fa1 hl2 hfa1 hk1
   refine⟨fr2,h2,fa2,hk2,hfa2,fun L hB {DS} ρ0 ρ w a QQ hn hke hs0 ha hs hf hN hdf hq=>?_⟩
   simp only[zec,Bool.and_eq_true,decide_eq_true_eq]at hB
   obtain⟨⟨⟨hD,hlt⟩,hready⟩,hB⟩:=hB
   refine EvQ.T_one (fuel:=r.length) (i:=i) (by simpa using hD) hready ?_
   refine zdO (hstep ρ w a QQ (fun p o hp=>(hs0.bd p o hp).1) hn hke hs hf hN hdf) ?_
   rintro a1 w1 ⟨⟨ρ1,f1,n1,d1,s1,x1⟩,hke1⟩
   have ha1:∀ p:Ev.P,p.toNat<hS.n.toNat->ρ1 p=ρ0 p:=fun p hp=>by rw[x1.agree p (by omega),ha p hp]
   have hs1:Sat E ρ0 hS w1:=y6 hs0 s1 hke1 ha1
   exact⟨hs1,hr2 _ hB ρ0 ρ1 w1 a1 QQ (Nat.le_trans hn x1.len) hke1 hs1 ha1 s1 f1 n1 d1 (fun a' w' hA=>hq a' w' (hA.trans x1))⟩
  rcases hxx with ⟨ii,hi,rfl⟩ | ⟨cl,f0,f,ll,hop,hcal,hf0,hll,rfl⟩
  ·have hk:jO g gg fr fa (fun fa=>evI ii fr h (fun v h1=>bc (zat ids hS h1) (yI d fa v fr (fun fr=>yk ids hS l2 g fr h1 fa k)) (err g 68)) (err g (yu ii))) (fun fa=>jC d (.tup []) fr (fun fr=>yk ids hS l2 g fr h fa k))=0:=hk
   rcases yE hg hfa hk with ⟨fa0,hfa0,hk,hw⟩ | ⟨fa0,hfa0,hk,hw⟩
   ·obtain⟨v,h1,hk,hrun⟩:=za7 hY hi hk (zl _ _)
    obtain⟨hkp,hk⟩:=zn hk (zl _ _)
    have hkeep:=jW hids hkp
    obtain⟨fr1,hk,hput⟩:=zP hfa0 hd hk
    refine one fr1 h1 fa0 hfa0 hk fun {DS} ρ w a QQ hbd hn hke hs hf hN hdf=>zbf ho (hw ρ _ a hf) ?_
    obtain⟨ρ',w',nx,hr,hnx,hs',hx',hb⟩:=hrun E ρ a w hf hs
    obtain⟨g1,g2,g3⟩:=hput ρ' _ a (hf.mono hx'.len hx'.agree) hN hb
    unfold Oper.wp
    rw[hr]
    have hgo:At E N DS ρ h w fr1 h1 (a.put o.dst (v.γ E ρ')) w'/\yr hS h1:=⟨⟨ρ',g1,g2,g3.trans hdf,hs',hx'⟩,hkeep⟩
    rcases hnx with rfl | ⟨rfl,rfl⟩
    ·exact hgo
    ·exact hgo
   ·obtain⟨fr1,hk,hput⟩:=z7 hd hk
    refine one fr1 h fa0 hfa0 hk fun {DS} ρ w a QQ hbd hn hke hs hf hN hdf=>zaE ho (hw ρ _ a hf) ?_
    obtain⟨g1,g2,g3⟩:=hput E ρ h.n.toNat a hf hN (by trivial)
    exact⟨⟨ρ,g1,g2,g3.trans hdf,hs,hs.refl E⟩,hke⟩
  ·have hk:jO g gg fr fa (fun fa=>jU f ll g fr h fa (fun v h1 fa=>bc (zat ids hS h1) (jC d v fr (fun fr=>yk ids hS l2 g fr h1 fa k)) (err g 70))) (fun fa=>jC d (.tup []) fr (fun fr=>yk ids hS l2 g fr h fa k))=0:=hk
   rcases yE hg hfa hk with ⟨fa0,hfa0,hk,hw⟩ | ⟨fa0,hfa0,hk,hw⟩
   ·obtain⟨F,vl,v,h1,fa1,hk,hfa1,hr,hdo⟩:=jY hop hcal hf0 hll hcall hfa0 hk
    obtain⟨hkp,hk⟩:=zn hk (zl _ _)
    have hkeep:=jW hids hkp
    obtain⟨fr1,hk,hput⟩:=z7 hd hk
    refine one fr1 h1 fa1 hfa1 hk fun {DS} ρ w a QQ hbd hn hke hs hf hN hdf=>zbf ho (hw ρ _ a hf) ?_
    obtain⟨hvb,hex⟩:=hr ρ _ a hf
    unfold Oper.wp
    rw[hex,Oper.upon_enter]
    refine(hdo ρ w hvb hs).mono ?_
    rintro e w' ⟨ρ',rfl,hs',hx',hb⟩
    obtain⟨g1,g2,g3⟩:=hput E ρ' _ a (hf.mono hx'.len hx'.agree) hN hb
    exact⟨⟨ρ',g1,g2,g3.trans hdf,hs',hx'⟩,hkeep⟩
   ·obtain⟨fr1,hk,hput⟩:=z7 hd hk
    refine one fr1 h fa0 hfa0 hk fun {DS} ρ w a QQ hbd hn hke hs hf hN hdf=>zaE ho (hw ρ _ a hf) ?_
    obtain⟨g1,g2,g3⟩:=hput E ρ h.n.toNat a hf hN (by trivial)
    exact⟨⟨ρ,g1,g2,g3.trans hdf,hs,hs.refl E⟩,hke⟩
theorem zAT {Y:Ty} (hY:TyOk P Y) (hm:P.follows .mixedOrders=true) {g:Ctx} (hcall:zi E P g.call) {id:Nat} {ops:Array Oper} {ks:List Nat} {ord:List (Bool × Nat)} {q:Nat} {tl:List Nat} (hB:floKB ops ord q tl=true)
  {l:List (Bool × OI)} (hl:zZ Y N ops.toList (ord ++ (false,q)::tl.map (fun i=>(false,i)))=some l) {fr:Fr} {h:H} {fa:Fa} {k:K2} (hfa:FaOk E fa)
  (hk:cKops (ks.map zp) l g fr h fa k=0):zeB E P N (.region id ops true) fr h k:=by
 simp only[floKB,Bool.and_eq_true,decide_eq_true_eq,Bool.not_eq_true']at hB
 obtain⟨⟨⟨⟨⟨hsel,hlen⟩,hrest⟩,hqD⟩,hal⟩,hgo⟩:=hB
 have hqD:q∉ord.map (·.2) ++ tl:=by simpa [List.contains_iff_mem] using hqD
 have hk:zfF fr h (err g 66) (ks.map zp) (fun ids hS=>yk ids hS l g fr h fa (fun fr h fa=>k .normal fr h fa))=0:=hk
 -- the operation that makes the thing
 cases hoq:ops[q]? with
 | none=>simp[zfI,hoq]at hal
 | some oq=>
 simp only[zfI,hoq,Bool.and_eq_true]at hal
 obtain⟨⟨hgd,hds⟩,hop⟩:=hal
 have hgd:oq.guard=none:=by simpa using hgd
 have hnq:nth ops.toList q=some oq:=by rw[zX,Array.getElem?_toList];exact hoq
 obtain⟨l1,l23,hl1,hl23,rfl⟩:=zi6 ord hl
 obtain⟨oq',x,l3,hoq',hx,hl3,rfl⟩:=yf hl23
 rw[hnq]at hoq'
 have hoq':oq=oq':=by simpa using hoq'
 subst hoq'
 obtain⟨d,gg,hd,hg,hxx⟩:=z8 hx
 have hgg:gg=none:=by
  rw[hgd]at hg
  simp[zbt]at hg
  exact hg.symm
 subst hgg
 rcases hxx with ⟨ii,hi,rfl⟩ | ⟨cl,f0,f,ll,hop2,_⟩
 rotate_left
 ·rw[hop2]at hop;cases hop
 have fin:∀ (ob:Obj) (vl:Nat->Value) (oo:O) (vv:Ev.P->V),MakesQ P ops q oq ob vl->(∀ n,O.bd n oo)->(∀ ρ b hp,hp[b]? = some ob->oo.Is E ρ ⟨b,0⟩ hp)->(∀ (ρ:Rho) (i:Ev.P) b,ρ i=⟨b,0⟩->(vv i).γ E ρ=vl b) ->
   (∀ (i:Ev.P) n,i.toNat<n->(vv i).bd n)->(∀ fr h (kk:KV) e,e≠0->evI ii fr h kk e=0->kk (vv h.n) (h.add oo)=0)->zeB E P N (.region id ops true) fr h k:=by
  intro ob vl oo vv mq hobd hois hvv hvb hev
  cases hdq:oq.dst with
  | none=>simp[hdq]at hds
  | some dq=>
  obtain⟨ids,hS,hk,hSn,hids,hke,hSat⟩:=zdD (zl _ _) (ks.map zp) hk
  rw[ziM]at hk
  obtain⟨fr1,h1,fa1,hk1,hfa1,hr⟩:=zd3 hY hcall hsel mq hdq (tl:=tl) hrest hqD hids ord l1 fr h fa hl1 hfa hk
  -- the thing,as the evaluator makes it
  have hk2:evI ii fr1 h1 (fun v h2=>bc (zat ids hS h2) (yI d fa1 v fr1 (fun fr=>yk ids hS l3 g fr h2 fa1 (fun fr h fa=>k .normal fr h fa))) (err g 68)) (err g (yu ii))=0:=hk1
  have hk2:=hev _ _ _ _ (zl _ _) hk2
  obtain⟨hkp,hk2⟩:=zn hk2 (zl _ _)
  have hke3:=jW hids hkp
  obtain⟨fr3,hk3,hput⟩:=zP hfa1 hd hk2
  obtain⟨fr4,h4,fa4,hk4,hfa4,hchain⟩:=ziN hY hcall (D:=ord.map (·.2) ++ tl) hids tl l3 fr3 (h1.add oo) fa1 hl3 hfa1 hk3
  refine⟨.normal,fr4,h4,fa4,hk4,hfa4,fun {DS} ρ w a QQ hs hf hN hd hQ=>?_⟩
  have hs1:Sat E ρ h { w with drawn:=w.drawn+1 }:=⟨hs.obj,hs.inj,hs.bd⟩
  have hx1:Ext ρ h w ρ h { w with drawn:=w.drawn+1 }:=jG hs
  refine Go.wp_mono (Q:=fun e a' w'=>e=.normal/\At E N DS ρ h w fr4 h4 a' w') (EvQ.wp_region_T (S:=Sat E ρ hS) (D:=ord.map (·.2) ++ tl) hm ?_) (fun e a' w' ⟨he,hA⟩=>by rw[he];exact hQ a' w' hA)
  have key:=hr none (Array.replicate ops.size false) hgo (EvQ.Closed.none _) w.heap.size ρ ρ { w with drawn:=w.drawn+1 } a (fun e a' w'=>e=.normal/\At E N DS ρ h w fr4 h4 a' w') (Nat.le_refl _) (by rw[hSn];exact Nat.le_refl _) hke (hSat E ρ _ hs1) (fun _ _=>rfl) hs1 hf hN hd trivial (fun c a w hh=>(by cases hh.1)) (by
   rintro lq' a2 w2 L2 ⟨ρ2,f2,n2,d2,s2,x2,c2,h02,hn2,hke2,hs02,ha2⟩ hE
   simp only[endF,Bool.and_eq_true,decide_eq_true_eq,Bool.not_eq_true']at hE
   obtain⟨⟨hnd,hrq⟩,hcE⟩:=hE
   have rest:∀ b w3,Sat E ρ2 h1 w3->Sat E ρ hS w3->Ext ρ2 h1 w2 ρ2 h1 w3->zcQ ob w.heap.size b ρ2 h1 w3->EvQ.wpAnyT P ops (fun e a' w'=>e=.normal/\At E N DS ρ h w fr4 h4 a' w') (Sat E ρ hS) (ord.map (·.2) ++ tl) tl.length (L2.setIfInBounds q true) (jR vl oq.dst (some b) a2) w3:=by
    intro b w3 s3' hs03 x3' c3
    obtain⟨cc1,cc2,cc3⟩:=c3
    have s3:=zb9 s3' oo (hobd _) ⟨b,0⟩ cc3 (hois _ _ _ cc1)
    have x3:=zci ((hx1.trans x2).trans x3') (fun p o hp=>(s3'.bd p o hp).1) oo ⟨b,0⟩ cc2
    have hpt:V.γ E (jP ρ2 h1.n ⟨b,0⟩) (vv h1.n)=vl b:=hvv _ _ _ (yQ ..)
    obtain⟨g1,g2,g3⟩:=hput (jP ρ2 h1.n ⟨b,0⟩) (h1.add oo).n.toNat a2 (f2.mono (by simp[H.add]) (fun i hi=>zao ρ2 _ hi)) n2 (hvb _ _ (by simp[H.add]))
    rw[hpt]at g1 g2 g3
    exact hchain (L2.setIfInBounds q true) hcE ρ (jP ρ2 h1.n ⟨b,0⟩) w3 _ _ (by simp[H.add];omega) hke3 hs03 (fun p hp=>by rw[zao ρ2 _ (by omega)];exact ha2 p hp) s3 g1 g2 (g3.trans d2) (fun a' w' hA=>⟨rfl,hA.trans x3⟩)
   cases lq' with
   | some b=>exact rest b w2 s2 hs02 (s2.refl E) c2
   | none=>exact EvQ.T_q hnd hrq (mq.op ⟨yS hs02 _,rest _ _ (yS s2 _) (yS hs02 _) (zaz s2 _) (zaJ s2 h02)⟩))
  have e:jF none (tl.length+ord.length)=ops.size:=hlen
  rw[e]at key
  exact key
 cases hopq:oq.op with
 | makeMap t r=>
  cases r with
  | some r=>simp[hopq]at hop
  | none=>
  rw[hopq]at hi
  have hi:IOp.mop .mk=ii:=by simpa [cOp] using hi
  subst hi
  refine fin (.map #[] 0) (fun b=>.map (some b)) (.map []) (fun i=>.mp i) ⟨hoq,hgd,fun a w=>by simp[execOp,hopq,Instr.makeMap]⟩ (fun n=>by simp[O.bd]) (fun ρ b hp h0=>⟨#[],h0,by simp[ztT]⟩) (fun ρ i b e=>by simp[V.γ,e]) (fun i n h=>by simpa [V.bd] using h) ?_
  intro fr h kk e he hk
  have hk:zas h (.map []) (fun i h=>kk (.mp i) h)=0:=hk
  rw[ji]at hk
  exact hk
 | alloc ty=>
  rw[hopq]at hi
  simp only[cOp]at hi
  cases hz:(Y.ti ty).zero with
  | none=>rw[hz]at hi;cases hi
  | some z=>
   rw[hz]at hi
   have hi:IOp.new ty z=ii:=by simpa using hi
   subst hi
   obtain⟨zs,hzs,hzb,hz1,hrun⟩:∃ zs:Array Value,(∀ ρ,(γL E ρ z).toArray=zs)/\bdL 0 z/\yP V.one z=true/\∀ (a:Act) (w:World),(execOp a.eval oq).run P w=.ok (.value (.pointer (some ⟨w.heap.size,0,none⟩))) (w.alloc (.cells zs ty)):=by
    refine⟨(γL E (fun _=>⟨0,0⟩) z).toArray,fun ρ=>?_,?_,?_,fun a w=>?_⟩
    ·obtain⟨x,hx,he,hb,_⟩:=zaB (E:=E) (w:=default) hY.ti hz ρ
     rw[γL_agree E (n:=0) (fun i hi=>absurd hi (Nat.not_lt_zero _)) z hb]
    ·obtain⟨x,hx,he,hb,_⟩:=zaB (E:=E) (w:=default) hY.ti hz (fun _=>⟨0,0⟩)
     exact hb
    ·obtain⟨x,hx,he,hb,_,_,h1⟩:=zaB (E:=E) (w:=default) hY.ti hz (fun _=>⟨0,0⟩)
     exact h1
    ·obtain⟨x,hx1,he,hb,_⟩:=zaB (E:=E) (w:=w) hY.ti hz (fun _=>⟨0,0⟩)
     rw[<- he]
     simp[execOp,hopq,Instr.alloc,hx1,newVar,newRow,jx]
   refine fin (.cells zs ty) (fun b=>.pointer (some ⟨b,0,none⟩)) (.cells ty z) (fun i=>.ptr i 0) ⟨hoq,hgd,hrun⟩ (fun n=>yO (Nat.zero_le _) z hzb) (fun ρ b hp h0=>by show hp[b]? = _;rw[hzs];exact h0) (fun ρ i b e=>by simp[V.γ,e]) (fun i n h=>by simpa [V.bd] using h) ?_
   intro fr h kk e he hk
   have hk2:eNew ty z fr h kk e=0:=hk
   unfold eNew zf8 at hk2
   rw[hz1]at hk2
   have hk2:zas h (.cells ty z) (fun n h2=>kk (.ptr n 0) h2)=0:=hk2
   rw[ji]at hk2
   exact hk2
 | _=>simp[hopq]at hop
end Go.Ev
end
set_option linter.unusedSimpArgs false
set_option linter.unusedVariables false
noncomputable section
namespace Go.Ev
open Go
variable {E:Env} {P:Program} {N:Nat}
theorem zdo {F:Fr} {k:Fr->Nat}:∀ (sl:List Ky) (acc:Fr),yC zcV (zcW F) sl acc k=0 ->
  ∃ fr',k fr'=0/\∀ s v,fr'.get s=some v->(s∈sl/\F.get s=some v)\/acc.get s=some v
 | [],acc,h=>⟨acc,h,fun s v hs=>.inr hs⟩
 | t::r,acc,h=>by
  have h:oc (F.get t) (fun v=>zb7 t acc v (fun acc=>yC zcV (zcW F) r acc k)) (yC zcV (zcW F) r acc k)=0:=h
  cases hf:F.get t with
  | none=>
   rw[hf]at h
   obtain⟨fr',h1,h2⟩:=zdo r acc (show yC zcV (zcW F) r acc k=0 from h)
   refine⟨fr',h1,fun s v hs=>?_⟩
   rcases h2 s v hs with ⟨h3,h4⟩ | h3
   ·exact .inl ⟨List.mem_cons_of_mem _ h3,h4⟩
   ·exact .inr h3
  | some u=>
   rw[hf]at h
   obtain⟨acc',g1,g2,g3⟩:=zbH (show zb7 t acc u (fun acc=>yC zcV (zcW F) r acc k)=0 from h)
   obtain⟨fr',h1,h2⟩:=zdo r acc' g1
   refine⟨fr',h1,fun s v hs=>?_⟩
   rcases h2 s v hs with ⟨h3,h4⟩ | h3
   ·exact .inl ⟨List.mem_cons_of_mem _ h3,h4⟩
   ·by_cases e:s=t
    ·subst e
     rw[g2]at h3;cases h3
     exact .inl ⟨List.mem_cons_self ..,hf⟩
    ·rw[g3 s e]at h3;exact .inr h3
def zf3 (E:Env) (ρ:Rho) (n:Nat) (FR:Fr) (tmps:Array Value) (sl:List Nat):Prop:=∀ t∈sl,∀ v,FR.get (zp t)=some v->tmps[t]? = some (v.γ E ρ)/\v.bd n
theorem zfm {F:Fr} {sl:List Nat} {k:Fr->Nat} (h:zaL F (sl.map zp) Fr.e k=0):∃ frx,k frx=0/\∀ (E:Env) (ρ:Rho) (n:Nat) (tmps:Array Value),zf3 E ρ n F tmps sl->zw E ρ n frx tmps:=by
 obtain⟨frx,h1,h2⟩:=zdo _ _ h
 refine⟨frx,h1,fun E ρ n tmps hf t v hv=>?_⟩
 rcases h2 _ v hv with ⟨h3,h4⟩ | h3
 ·obtain⟨t',h5,h6⟩:=List.mem_map.1 h3
  have:=zdA h6
  subst this
  exact hf t' h5 v h4
 ·rw[Fr.get_e]at h3;cases h3
theorem chkV_ok {fa:Fa} (hfa:FaOk E fa) {v:V} {u:Option V} {k e:Nat} (h:chkV fa v u k e=0) (he:e≠0):k=0/\∃ u',u=some u'/\∀ ρ n,v.bd n->u'.γ E ρ=v.γ E ρ/\u'.bd n:=by
 obtain⟨u',hu,h⟩:=zA h he
 rw[zwn]at h
 obtain⟨h1,h2⟩:=zn h he
 have h1:=V.beq_ok h1
 subst h1
 exact⟨h2,_,hu,fun ρ n hv=>⟨((zvh hfa v).1 ρ),((zvh hfa v).2 n hv)⟩⟩
theorem zz4 {r:Option (Option (Nat × V))} {a e:Nat} (h:ztG r a e=0) (he:e≠0):r=some none/\a=0:=by
 unfold ztG at h
 split at h
 ·exact⟨rfl,h⟩
 ·exact absurd h he
theorem zwV {fa:Fa} (hfa:FaOk E fa) {d:Option Ky} {dst:Option Nat} (hd:zef N dst=some d) {v:V} {FR:Fr} {k e:Nat} (h:chkD fa d v FR k e=0) (he:e≠0) :
  k=0/\∀ t,dst=some t->t<N/\∃ u,FR.get (zp t)=some u/\∀ ρ n,v.bd n->u.γ E ρ=v.γ E ρ/\u.bd n:=by
 cases dst with
 | none=>
  simp[zef]at hd;subst hd
  exact⟨h,fun t ht=>by cases ht⟩
 | some t=>
  simp only[zef]at hd
  split at hd
  ·rename_i hlt
   simp at hd;subst hd
   obtain⟨h1,u,hu,h2⟩:=chkV_ok hfa (show chkV fa v (FR.get (zp t)) k e=0 from h) he
   exact⟨h1,fun t' ht=>by cases ht;exact⟨by simpa using hlt,u,hu,h2⟩⟩
  ·simp at hd
theorem q_step {Y:Ty} (hY:TyOk P Y) {all:List Oper} {o:Oper} {x:OI} (hx:jQ Y N all o=some x) {c:Ctx} {FR:Fr} {hS:H} {fa:Fa} (hfa:FaOk E fa) {sl:List Nat} {r:List (List Ky × OI)} {ih:Nat} (hk:mqC c FR hS fa (sl.map zp,x) r ih=0) :
  ih=0/\o.guard=none/\∃ v:V,(∀ ρ n (a:Act) w,hS.n.toNat<=n->zf3 E ρ n FR a.tmps sl->Sat E ρ hS w->(execOp a.eval o).run P w=.ok (.value (v.γ E ρ)) w/\v.bd n) /\
   ∀ t,o.dst=some t->t<N/\∃ u,FR.get (zp t)=some u/\∀ ρ n,v.bd n->u.γ E ρ=v.γ E ρ/\u.bd n:=by
 obtain⟨d,gg,hd,hg,hxx⟩:=z8 hx
 rcases hxx with ⟨ii,hi,rfl⟩ | ⟨cl,f0,f,ll,hop,hcal,hf0,hll,rfl⟩
 ·have hk:oc gg (fun _=>err c 71) (bc (zN ii) (zaL FR (sl.map zp) Fr.e (fun frx=>evI ii frx hS (fun v _=>chkD fa d v FR ih (err c 72)) (err c 73))) (err c 74))=0:=hk
  cases gg with
  | some gg=>exact absurd (show err c 71=0 from hk) (zl _ _)
  | none=>
   obtain⟨hst,hk⟩:=zn (show bc (zN ii) (zaL FR (sl.map zp) Fr.e (fun frx=>evI ii frx hS (fun v _=>chkD fa d v FR ih (err c 72)) (err c 73))) (err c 74)=0 from hk) (zl _ _)
   obtain⟨frx,hk,hfx⟩:=zfm hk
   obtain⟨v,h',hk,hrun⟩:=yh hY hi hst hk (zl _ _)
   obtain⟨h1,h2⟩:=zwV hfa hd hk (zl _ _)
   exact⟨h1,yx hg,v,fun ρ n a w hn hf hs=>hrun E ρ n a w hn (hfx E ρ n a.tmps hf) hs,h2⟩
 ·exact absurd (show err c 75=0 from hk) (zl _ _)
theorem c_step {Y:Ty} {all:List Oper} {o:Oper} {x:OI} (hx:jQ Y N all o=some x) {c:Ctx} (hcall:zi E P c.call) {FR:Fr} {ids:List Ev.P} {hS:H} (hids:∀ p o,hS.t.get p=some o->p∈ids) {h:H} {fa:Fa} (hfa:FaOk E fa) {sl:List Nat} {r:List (List Ky × OI)}
  {ih:H->Fa->(H->Fa->Nat)->Nat} {k:H->Fa->Nat} (hk:mcC c FR ids hS (sl.map zp,x) r ih h fa k=0) :
  ∃ (v:V) (h1:H) (fa1:Fa),ih h1 fa1 k=0/\FaOk E fa1/\yr hS h1/\o.guard=none/\(∀ t,o.dst=some t->t<N/\∃ u,FR.get (zp t)=some u/\∀ ρ n,v.bd n->u.γ E ρ=v.γ E ρ/\u.bd n) /\
   ∀ ρ (a:Act) w QQ,zf3 E ρ h.n.toNat FR a.tmps sl->Sat E ρ h w->o.wp P a w (fun a1 w1=>∃ ρ1,a1=a.put o.dst (v.γ E ρ1)/\Sat E ρ1 h1 w1/\Ext ρ h w ρ1 h1 w1/\v.bd h1.n.toNat) QQ:=by
 obtain⟨d,gg,hd,hg,hxx⟩:=z8 hx
 rcases hxx with ⟨ii,hi,rfl⟩ | ⟨cl,f0,f,ll,hop,hcal,hf0,hll,rfl⟩
 ·exact absurd (show err c 76=0 from hk) (zl _ _)
 ·have hk:oc gg (fun _=>err c 77) (zaL FR (sl.map zp) Fr.e (fun frx=>jU f ll c frx h fa (fun v h1 fa=>bc (zat ids hS h1) (chkD ⟨[],[]⟩ d v FR (ih h1 fa k) (err c 78)) (err c 79))))=0:=hk
  cases gg with
  | some gg=>exact absurd (show err c 77=0 from hk) (zl _ _)
  | none=>
   obtain⟨frx,hk,hfx⟩:=zfm (show zaL FR (sl.map zp) Fr.e (fun frx=>jU f ll c frx h fa (fun v h1 fa=>bc (zat ids hS h1) (chkD ⟨[],[]⟩ d v FR (ih h1 fa k) (err c 78)) (err c 79)))=0 from hk)
   obtain⟨F,vl,v,h1,fa1,hk,hfa1,hr,hdo⟩:=jY hop hcal hf0 hll hcall hfa hk
   obtain⟨hkp,hk⟩:=zn hk (zl _ _)
   obtain⟨hk,h2⟩:=zwV FaOk.nil hd hk (zl _ _)
   refine⟨v,h1,fa1,hk,hfa1,jW hids hkp,yx hg,h2,fun ρ a w QQ hf hs=>?_⟩
   obtain⟨hvb,hex⟩:=hr ρ _ a (hfx E ρ _ a.tmps hf)
   unfold Oper.wp
   rw[hex,Oper.upon_enter]
   refine(hdo ρ w hvb hs).mono ?_
   rintro e w' ⟨ρ',rfl,hs',hx',hb⟩
   exact⟨ρ',rfl,hs',hx',hb⟩
theorem i_step {Y:Ty} {all:List Oper} {o:Oper} {x:OI} (hx:jQ Y N all o=some x) {c:Ctx} {FR:Fr} {sl:List Nat} {r:List (List Ky × OI)} {ih:List (V × V)->(List (V × V)->Nat)->Nat} {l:List (V × V)} {k:List (V × V)->Nat}
  (hk:miC c FR (sl.map zp,x) r ih l k=0) {ty:TypeId} {m kx xx:Operand} (hop:o.op=.insert ty m kx xx) :
  ∃ (kk:KK) (z kv v:V),Y.mp ty=some (kk,z)/\ih (l ++ [(kv,v)]) k=0/\o.guard=none/\ja kk kv=true/\yt kk kv l 0=some none /\
   ∀ ρ n (a:Act),zf3 E ρ n FR a.tmps sl->a.eval kx=kv.γ E ρ/\kv.bd n/\a.eval xx=v.γ E ρ/\v.bd n:=by
 obtain⟨d,gg,hd,hg,hxx⟩:=z8 hx
 rcases hxx with ⟨ii,hi,rfl⟩ | ⟨cl,f0,f,ll,hop2,hcal,hf0,hll,rfl⟩
 ·rw[hop]at hi
  simp only[cOp]at hi
  split at hi
  ·rename_i kk z m' k' x' hmp hm hkx hxx
   simp at hi;subst hi
   have hk:oc gg (fun _=>err c 80) (zaL FR (sl.map zp) Fr.e (fun frx=>oc (od k' frx) (fun kv=>oc (od x' frx) (fun v=>bc (ja kk kv) (ztG (yt kk kv l 0) (ih (app l [(kv,v)]) k) (err c 81)) (err c 82)) (err c 82)) (err c 82)))=0:=hk
   cases gg with
   | some gg=>exact absurd (show err c 80=0 from hk) (zl _ _)
   | none=>
    obtain⟨frx,hk,hfx⟩:=zfm (show zaL FR (sl.map zp) Fr.e (fun frx=>oc (od k' frx) (fun kv=>oc (od x' frx) (fun v=>bc (ja kk kv) (ztG (yt kk kv l 0) (ih (app l [(kv,v)]) k) (err c 81)) (err c 82)) (err c 82)) (err c 82))=0 from hk)
    obtain⟨kv,g1,hk⟩:=zA hk (zl _ _)
    obtain⟨v,g2,hk⟩:=zA hk (zl _ _)
    obtain⟨g3,hk⟩:=zn hk (zl _ _)
    obtain⟨g4,hk⟩:=zz4 hk (zl _ _)
    rw[zaf]at hk
    refine⟨kk,z,kv,v,hmp,hk,yx hg,g3,g4,fun ρ n a hf=>?_⟩
    obtain⟨p1,p2⟩:=zq (hfx E ρ n a.tmps hf) hkx g1
    obtain⟨p3,p4⟩:=zq (hfx E ρ n a.tmps hf) hxx g2
    exact⟨p1,p2,p3,p4⟩
  ·simp at hi
 ·rw[hop]at hop2;cases hop2
theorem sat_sub {ρ:Rho} {hS h:H} {w:World} (s:Sat E ρ h w) (hk:yr hS h) (hb:∀ p o,hS.t.get p=some o->p.toNat<hS.n.toNat/\o.bd hS.n.toNat):Sat E ρ hS w:=by
 refine⟨fun p o hp=>?_,fun p q o o' hp hq l1 l2 he=>s.inj p q o o' (hk p o hp (yA l1)) (hk q o' hq l2) l1 l2 he,hb⟩
 cases hl:o.live with
 | false=>cases o <;> simp[O.live]at hl;trivial
 | true=>exact s.obj p o (hk p o hp hl)
theorem ins_raw {Y:Ty} (hY:TyOk P Y) {ty:TypeId} {kk:KK} {z:V} (hmp:Y.mp ty=some (kk,z)) {ρ:Rho} {w:World} {b:Nat} {es:Array MapEntry} {l:List (V × V)} {kv v:V} (hb:w.heap[b]? = some (.map es es.size))
  (hes:es.toList.map (fun e=>(e.key,e.val))=l.map (fun p=>(p.1.γ E ρ,p.2.γ E ρ))) (hkb:ja kk kv=true) (hf:yt kk kv l 0=some none) :
  (Instr.mapUpdate ty (.map (some b)) (kv.γ E ρ) (v.γ E ρ)).run P w=.ok () { w with heap:=w.heap.setIfInBounds b (.map (es.push ⟨kv.γ E ρ,v.γ E ρ,es.size⟩) (es.size+1)) }:=by
 obtain⟨kt,et,hu,hK,hz⟩:=hY.mp ty kk z hmp
 have hf0:=hK.find E ρ w kv l none es.toList hkb hf hes
 have hg:=MapKept.run_getObj_map (P:=P) hb
 have hc:=hK.check E ρ w false kv hkb
 have jL:=MapKept.run_setObj_map (P:=P) (.map (es.push ⟨kv.γ E ρ,v.γ E ρ,es.size⟩) (es.size+1)) hb
 simp[Instr.mapUpdate,run_underlying hu,hg,hc,hf0,jL]
theorem zuc {ρ0 ρ:Rho} {h0 h:H} {w0 w:World} (x:Ext ρ0 h0 w0 ρ h w) {b:Nat} (hb:w0.heap.size<=b) (o:Obj):Ext ρ0 h0 w0 ρ h { w with heap:=w.heap.setIfInBounds b o }:=
 ⟨x.len,x.lo,x.agree,x.new,x.os,x.tape,x.output,by simpa using x.size,fun b' h1 h2=>by
  show (w.heap.setIfInBounds b o)[b']? = _
  rw[Array.getElem?_setIfInBounds,if_neg (by omega)];exact x.keep b' h1 h2,x.old,x.liv⟩
theorem zmE {ρ:Rho} {h:H} {w:World} (s:Sat E ρ h w) {b:Nat} (hb:∀ p o,h.t.get p=some o->o.live=true->(ρ p).b≠b) (o:Obj):Sat E ρ h { w with heap:=w.heap.setIfInBounds b o }:=
 ⟨fun p x hp=>O.Is_heap E (fun hl=>by
  show (w.heap.setIfInBounds b o)[(ρ p).b]? = _
  rw[Array.getElem?_setIfInBounds,if_neg (fun e=>hb p x hp hl e.symm)]) (s.obj p x hp),s.inj,s.bd⟩
def cnt (L:Array Bool) (n0:Nat):Nat:=(List.range n0).countP (fun i=>!L.getD i true)
theorem zfQ {i:Nat} {p p':Nat->Bool}:∀ (l:List Nat),l.Nodup->i∈l->p i=true->p' i=false->(∀ j,j≠i->p' j=p j)->l.countP p=l.countP p'+1
 | [],_,h,_,_,_=>by cases h
 | a::r,hn,h,h1,h2,h3=>by
  obtain⟨g1,g2⟩:=List.nodup_cons.1 hn
  by_cases e:a=i
  ·subst e
   have:r.countP p=r.countP p':=List.countP_congr fun j hj=>by rw[h3 j (fun e=>g1 (e ▸ hj))]
   simp[List.countP_cons,h1,h2,this]
  ·have h4:i∈r:=by
    rcases List.mem_cons.1 h with h | h
    ·exact absurd h.symm e
    ·exact h
   have:=zfQ r g2 h4 h1 h2 h3
   simp only[List.countP_cons,this,h3 a e]
   omega
theorem cnt_set {L:Array Bool} {n0 i:Nat} (hi:i<n0) (hs:i<L.size) (hu:L.getD i true=false):cnt L n0=cnt (L.setIfInBounds i true) n0+1:=by
 refine zfQ (i:=i) _ List.nodup_range (List.mem_range.2 hi) (by simp only[hu];rfl) ?_ (fun j hj=>?_)
 ·have:(L.setIfInBounds i true).getD i true=true:=by simp[Array.getD_eq_getD_getElem?,Array.getElem?_setIfInBounds,hs]
  simp only[this];rfl
 ·rw[getD_set_ne true (Ne.symm hj)]
theorem zBk {L:Array Bool} {n0:Nat} (h:cnt L n0=0):∀ i,i<n0->L.getD i true=true:=by
 intro i hi
 have:=List.countP_eq_zero.1 h i (List.mem_range.2 hi)
 simpa using this
theorem zua {p:Nat->Bool}:∀ (n:Nat),(∃ i,i<n/\p i=false)->∃ i,i<n/\p i=false/\∀ j,j<i->p j=true
 | 0,⟨i,h,_⟩=>by omega
 | n+1,⟨i,h,h1⟩=>by
  by_cases e:∃ i,i<n/\p i=false
  ·obtain⟨i,g1,g2⟩:=zua n e
   exact⟨i,by omega,g2⟩
  ·have hall:∀ j,j<n->p j=true:=fun j hj=>by
    cases hp:p j with
    | true=>rfl
    | false=>exact absurd ⟨j,hj,hp⟩ e
   have:i=n:=by
    rcases Nat.lt_or_ge i n with h2 | h2
    ·rw[hall i h2]at h1;cases h1
    ·omega
   subst this
   exact⟨i,by omega,h1,hall⟩
structure MapSt (ops:Array Oper) (qs cs:List (Nat × List Nat)) (q dq:Nat) (ins:List (Nat × List Nat)) (ty:TypeId) (n0:Nat):Prop where
 le:n0<=ops.size
 q0:q<n0
 nd:(qs.map (·.1) ++ (cs.map (·.1) ++ q::ins.map (·.1))).Nodup
 cov:∀ i,i<n0->i∈qs.map (·.1) ++ (cs.map (·.1) ++ q::ins.map (·.1))
 low:∀ i,i<n0->∀ j∈EvQ.edgesOf ops i,j<i
 lt:∀ x∈qs ++ (cs ++ ins),x.1<n0
 sl:∀ x∈qs ++ (cs ++ ins),∀ t∈x.2,t≠dq/\∀ j o,ops[j]? = some o->o.dst=some t->j∈EvQ.edgesOf ops x.1
 ch:∀ p a b r,cs=p ++ a::b::r->a.1∈EvQ.edgesOf ops b.1
 insq:∀ x∈ins,q∈EvQ.edgesOf ops x.1
 dst:∀ i j o o' t,i<n0->j<n0->ops[i]? = some o->ops[j]? = some o'->o.dst=some t->o'.dst=some t->i=j
 tl:∀ i,n0<=i->i<ops.size->∀ j,j<n0->j∈EvQ.edgesOf ops i
def kvA (kvl:List (V × V)) (n:Nat):V × V:=kvl.getD n (.nil,.nil)
def zw4 (E:Env) (N:Nat) (FR:Fr) (o:Oper) (v:V):Prop:=∀ t,o.dst=some t->t<N/\∃ u,FR.get (zp t)=some u/\∀ ρ n,v.bd n->u.γ E ρ=v.γ E ρ/\u.bd n
inductive Ch (E:Env) (P:Program) (N:Nat) (ops:Array Oper) (FR:Fr) (hS:H):List (Nat × List Nat)->H->H->Prop where
 | nil (h:H):Ch E P N ops FR hS [] h h
 | cons {x:Nat × List Nat} {r:List (Nat × List Nat)} {h h1 hN:H} {o:Oper} {v:V}:ops[x.1]? = some o->o.guard=none->yr hS h1->zw4 E N FR o v ->
   (∀ ρ (a:Act) w QQ,zf3 E ρ h.n.toNat FR a.tmps x.2->Sat E ρ h w->o.wp P a w (fun a1 w1=>∃ ρ1,a1=a.put o.dst (v.γ E ρ1)/\Sat E ρ1 h1 w1/\Ext ρ h w ρ1 h1 w1/\v.bd h1.n.toNat) QQ) ->
   Ch E P N ops FR hS r h1 hN->Ch E P N ops FR hS (x::r) h hN
def MapInv (E:Env) (q dq:Nat) (ins:List (Nat × List Nat)) (kvl:List (V × V)) (w0:World) (L:Array Bool) (lq:Option (Nat × List Nat)) (ρ:Rho) (h:H) (w:World) (a:Act):Prop:=match lq with
 | none=>L.getD q true=false/\∀ x∈ins,L.getD x.1 true=false
 | some (b,ll)=>L.getD q false=true/\a.tmps[dq]? = some (.map (some b))/\w0.heap.size<=b/\(∀ p o,h.t.get p=some o->o.live=true->(ρ p).b≠b)/\ll.Nodup/\(∀ n∈ll,n<ins.length) /\
  (∀ n x,ins[n]? = some x->(n∈ll ↔ L.getD x.1 false=true))/\(∀ n∈ll,(kvA kvl n).1.bd h.n.toNat/\(kvA kvl n).2.bd h.n.toNat) /\
  ∃ es:Array MapEntry,w.heap[b]? = some (.map es es.size)/\es.toList.map (fun e=>(e.key,e.val))=(ll.map (kvA kvl)).map (fun p=>(p.1.γ E ρ,p.2.γ E ρ))/\∀ (i:Nat) (e:MapEntry),es[i]? = some e->e.born=i
structure MInv (E:Env) (N:Nat) (ops:Array Oper) (cs:List (Nat × List Nat)) (q dq:Nat) (ins:List (Nat × List Nat)) (n0:Nat) (FR:Fr) (hS:H) (kvl:List (V × V)) (DS:List Deferred) (ρ0:Rho) (h0:H) (w0:World)
  (L:Array Bool) (cr:List (Nat × List Nat)) (lq:Option (Nat × List Nat)) (ρ:Rho) (h:H) (w:World) (a:Act):Prop where
 size:L.size=ops.size
 tail:∀ i,n0<=i->i<ops.size->L.getD i true=false
 cs:∃ p,cs=p ++ cr/\(∀ x∈p,L.getD x.1 false=true)/\∀ x∈cr,L.getD x.1 true=false
 sat:Sat E ρ h w
 ext:Ext ρ0 h0 w0 ρ h w
 keep:yr hS h
 hn:hS.n.toNat<=h.n.toNat
 fr:∀ t v,FR.get (zp t)=some v->t≠dq->(∀ j o,j<n0->ops[j]? = some o->o.dst=some t->L.getD j false=true)->a.tmps[t]? = some (v.γ E ρ)/\v.bd h.n.toNat
 sz:N<=a.tmps.size
 df:a.defers=DS
 mp:MapInv E q dq ins kvl w0 L lq ρ h w a
theorem zaN {L:Array Bool} {i:Nat} (h:i<L.size):L.getD i true=L.getD i false:=by simp[h]
theorem zlK {a:Act} {d:Option Tmp} {v:Value} {t:Nat} (ht:d≠some t):(a.put d v).tmps[t]? = a.tmps[t]?:=by
 cases d with
 | none=>rfl
 | some d=>
  show (a.tmps.setIfInBounds d v)[t]? = _
  rw[Array.getElem?_setIfInBounds,if_neg (fun e=>ht (by rw[e]))]
theorem zdq {a:Act} {v:Value} {t:Nat} (ht:t<a.tmps.size):(a.put (some t) v).tmps[t]? = some v:=by
 show (a.tmps.setIfInBounds t v)[t]? = _
 rw[Array.getElem?_setIfInBounds,if_pos rfl,if_pos ht]
theorem ztz {a:Act} {d:Option Tmp} {v:Value}:(a.put d v).tmps.size=a.tmps.size:=by cases d <;> simp[Act.put]
theorem put_df {a:Act} {d:Option Tmp} {v:Value}:(a.put d v).defers=a.defers:=by cases d <;> rfl
section
variable {ops:Array Oper} {qs cs:List (Nat × List Nat)} {q dq:Nat} {ins:List (Nat × List Nat)} {ty:TypeId} {n0:Nat} {FR:Fr} {hS:H} {kvl:List (V × V)} {DS:List Deferred} {ρ0:Rho} {h0:H} {w0:World}
 {L:Array Bool} {cr:List (Nat × List Nat)} {lq:Option (Nat × List Nat)} {ρ:Rho} {h:H} {w:World} {a:Act}
theorem MInv.slots (st:MapSt ops qs cs q dq ins ty n0) (iv:MInv E N ops cs q dq ins n0 FR hS kvl DS ρ0 h0 w0 L cr lq ρ h w a) {x:Nat × List Nat} (hx:x∈qs ++ (cs ++ ins)) (hr:x.1∈Region.ready .any ops L):zf3 E ρ h.n.toNat FR a.tmps x.2:=by
 intro t ht v hv
 obtain⟨h1,h2⟩:=st.sl x hx t ht
 exact iv.fr t v hv h1 fun j o hj ho hd=>EvQ.ready_edges hr j (h2 j o ho hd)
theorem MInv.adv (st:MapSt ops qs cs q dq ins ty n0) (iv:MInv E N ops cs q dq ins n0 FR hS kvl DS ρ0 h0 w0 L cr lq ρ h w a) {i:Nat} {o:Oper} {v:V} (ho:ops[i]? = some o) (hi:i<n0) (hu:L.getD i true=false) (hq:i≠q) (hdq:o.dst≠some dq) (hins:∀ x∈ins,x.1≠i)
  (hd:zw4 E N FR o v) {ρ1:Rho} {h1:H} {w1:World} (s1:Sat E ρ1 h1 w1) (x1:Ext ρ h w ρ1 h1 w1) (hb:v.bd h1.n.toNat) (hk:yr hS h1) {cr':List (Nat × List Nat)}
  (hcs:∃ p,cs=p ++ cr'/\(∀ x∈p,(L.setIfInBounds i true).getD x.1 false=true)/\∀ x∈cr',(L.setIfInBounds i true).getD x.1 true=false) :
  MInv E N ops cs q dq ins n0 FR hS kvl DS ρ0 h0 w0 (L.setIfInBounds i true) cr' lq ρ1 h1 w1 (a.put o.dst (v.γ E ρ1)):=by
 have hin:i<L.size:=by rw[iv.size];exact Nat.lt_of_lt_of_le hi st.le
 refine⟨by simpa using iv.size,fun j g1 g2=>?_,hcs,s1,iv.ext.trans x1,hk,Nat.le_trans iv.hn x1.len,fun t u hu' hne hall=>?_,by rw[ztz];exact iv.sz,by rw[put_df];exact iv.df,?_⟩
 ·rw[getD_set_ne true (show i≠j by omega)];exact iv.tail j g1 g2
 ·by_cases e:o.dst=some t
  ·obtain⟨g1,u',g2,g3⟩:=hd t e
   rw[hu']at g2
   cases g2
   obtain⟨g4,g5⟩:=g3 ρ1 _ hb
   rw[e,zdq (Nat.lt_of_lt_of_le g1 iv.sz),g4]
   exact⟨rfl,g5⟩
  ·rw[zlK e]
   obtain⟨g1,g2⟩:=iv.fr t u hu' hne fun j o' hj ho' hd'=>by
    have:=hall j o' hj ho' hd'
    by_cases e2:i=j
    ·subst e2
     rw[ho]at ho';cases ho'
     exact absurd hd' e
    ·rwa [getD_set_ne false e2]at this
   rw[g1,γ_agree E x1.agree _ g2]
   exact⟨rfl,bd_mono x1.len _ g2⟩
 ·have hm:=iv.mp
  cases lq with
  | none=>
   obtain⟨g1,g2⟩:=hm
   exact⟨by rw[getD_set_ne true hq];exact g1,fun x hx=>by rw[getD_set_ne true (fun e=>hins x hx e.symm)];exact g2 x hx⟩
  | some y=>
   obtain⟨b,ll⟩:=y
   obtain⟨g1,g2,g3,g4,g5,g6,g7,g8,es,g9,g10,g11⟩:=hm
   have hbw:b<w.heap.size:=yv g9
   refine⟨by rw[getD_set_ne false hq];exact g1,by rw[zlK hdq];exact g2,g3,fun p o' hp hl=>?_,g5,g6,fun n x hx=>by rw[getD_set_ne false (fun e=>hins x (List.mem_of_getElem? hx) e.symm)];exact g7 n x hx,fun n hn=>⟨bd_mono x1.len _ (g8 n hn).1,bd_mono x1.len _ (g8 n hn).2⟩,es,?_,?_,g11⟩
   ·by_cases hn:p.toNat<h.n.toNat
    ·obtain⟨o2,h2,h3⟩:=x1.liv p o' hn hp hl
     rw[x1.agree p hn];exact g4 p o2 h2 h3
    ·rcases x1.new p o' (by omega) hp hl with h2 | ⟨q',o2,h2,h3,_,h4⟩
     ·omega
     ·rw[<- h4];exact g4 q' o2 h2 h3
   ·rw[x1.keep b hbw (fun p o' hp hl _=>g4 p o' hp hl)];exact g9
   ·rw[g10]
    refine List.map_congr_left fun p hp=>?_
    obtain⟨n,hn,rfl⟩:=List.mem_map.1 hp
    rw[γ_agree E x1.agree _ (g8 n hn).1,γ_agree E x1.agree _ (g8 n hn).2]
theorem MInv.make (st:MapSt ops qs cs q dq ins ty n0) (iv:MInv E N ops cs q dq ins n0 FR hS kvl DS ρ0 h0 w0 L cr none ρ h w a) (hqc:∀ x∈cs,x.1≠q) (hqi:∀ x∈ins,x.1≠q) (hdq:dq<a.tmps.size) {oq:Oper} (hoq:ops[q]? = some oq) (hoqd:oq.dst=some dq) :
  MInv E N ops cs q dq ins n0 FR hS kvl DS ρ0 h0 w0 (L.setIfInBounds q true) cr (some (w.heap.size,[])) ρ h (w.alloc (.map #[] 0)) (a.put (some dq) (.map (some w.heap.size))):=by
 obtain⟨m1,m2⟩:=iv.mp
 have hqn:q<L.size:=by rw[iv.size];exact Nat.lt_of_lt_of_le st.q0 st.le
 obtain⟨p,c1,c2,c3⟩:=iv.cs
 have hne:∀ t,t≠dq->(some dq:Option Tmp)≠some t:=fun t h e=>h (by cases e;rfl)
 refine⟨by simpa using iv.size,fun j g1 g2=>?_,⟨p,c1,fun x hx=>?_,fun x hx=>?_⟩,yS iv.sat _,iv.ext.trans (zaz iv.sat _),iv.keep,iv.hn,fun t u hu hne' hall=>?_,by rw[ztz];exact iv.sz,by rw[put_df];exact iv.df,?_⟩
 ·have:=st.q0
  rw[getD_set_ne true (show q≠j by omega)];exact iv.tail j g1 g2
 ·rw[getD_set_ne false (fun e=>hqc x (by rw[c1];exact List.mem_append_left _ hx) e.symm)];exact c2 x hx
 ·rw[getD_set_ne true (fun e=>hqc x (by rw[c1];exact List.mem_append_right _ hx) e.symm)];exact c3 x hx
 ·rw[zlK (hne t hne')]
  refine iv.fr t u hu hne' fun j o hj ho hd=>?_
  have:=hall j o hj ho hd
  by_cases e:q=j
  ·subst e
   rw[hoq]at ho;cases ho
   rw[hoqd]at hd
   exact absurd hd (hne t hne')
  ·rwa [getD_set_ne false e]at this
 ·refine⟨?_,zdq hdq,iv.ext.size,fun p o hp hl=>?_,List.nodup_nil,fun n hn=>(by cases hn),fun n x hx=>?_,fun n hn=>(by cases hn),#[],?_,rfl,fun i e he=>(by simp at he)⟩
  ·have:=zaN (L:=L.setIfInBounds q true) (i:=q) (by simpa using hqn)
   rw[<- this]
   simp[Array.getD_eq_getD_getElem?,Array.getElem?_setIfInBounds,hqn]
  ·have:=iv.sat.lt E hp hl
   omega
  ·have hx':=List.mem_of_getElem? hx
   have hxn:=st.lt x (by simp[hx'])
   rw[getD_set_ne false (fun e=>hqi x hx' e.symm)]
   have:=m2 x hx'
   rw[zaN (by rw[iv.size];exact Nat.lt_of_lt_of_le hxn st.le)]at this
   rw[this]
   simp
  ·show (w.alloc (.map #[] 0)).heap[w.heap.size]? = _
   rw[zv,Array.getElem?_push,if_pos rfl]
   rfl
theorem MInv.lay (st:MapSt ops qs cs q dq ins ty n0) {b:Nat} {ll:List Nat} (iv:MInv E N ops cs q dq ins n0 FR hS kvl DS ρ0 h0 w0 L cr (some (b,ll)) ρ h w a) {n:Nat} {x:Nat × List Nat} (hx:ins[n]? = some x) (hu:L.getD x.1 true=false) (hqi:∀ x∈ins,x.1≠q) (hci:∀ y∈cs,y.1≠x.1)
  (hii:∀ n' x',ins[n']? = some x'->x'.1=x.1->n'=n) {o:Oper} (ho:ops[x.1]? = some o) (hod:o.dst=none) (b1:(kvA kvl n).1.bd h.n.toNat) (b2:(kvA kvl n).2.bd h.n.toNat) {es:Array MapEntry} (e1:w.heap[b]? = some (.map es es.size)) (e2:es.toList.map (fun e=>(e.key,e.val))=(ll.map (kvA kvl)).map (fun p=>(p.1.γ E ρ,p.2.γ E ρ)))
  (e3:∀ (i:Nat) (e:MapEntry),es[i]? = some e->e.born=i) :
  MInv E N ops cs q dq ins n0 FR hS kvl DS ρ0 h0 w0 (L.setIfInBounds x.1 true) cr (some (b,ll ++ [n])) ρ h { w with heap:=w.heap.setIfInBounds b (.map (es.push ⟨(kvA kvl n).1.γ E ρ,(kvA kvl n).2.γ E ρ,es.size⟩) (es.size+1)) } a:=by
 obtain⟨g1,g2,g3,g4,g5,g6,g7,g8,_⟩:=iv.mp
 have hx':=List.mem_of_getElem? hx
 have hxn:=st.lt x (by simp[hx'])
 have hxs:x.1<L.size:=by rw[iv.size];exact Nat.lt_of_lt_of_le hxn st.le
 have hnl:n∉ll:=fun hn=>by
  have:=(g7 n x hx).1 hn
  rw[<- zaN hxs,hu]at this;cases this
 have jL:(L.setIfInBounds x.1 true).getD x.1 false=true:=by simp[Array.getD_eq_getD_getElem?,Array.getElem?_setIfInBounds,hxs]
 obtain⟨p,c1,c2,c3⟩:=iv.cs
 refine⟨by simpa using iv.size,fun j q1 q2=>?_,⟨p,c1,fun y hy=>?_,fun y hy=>?_⟩,zmE iv.sat g4 _,zuc iv.ext g3 _,iv.keep,iv.hn,fun t u hu' hne' hall=>?_,iv.sz,iv.df,?_⟩
 ·rw[getD_set_ne true (show x.1≠j by omega)];exact iv.tail j q1 q2
 ·rw[getD_set_ne false (fun e=>hci y (by rw[c1];exact List.mem_append_left _ hy) e.symm)];exact c2 y hy
 ·rw[getD_set_ne true (fun e=>hci y (by rw[c1];exact List.mem_append_right _ hy) e.symm)];exact c3 y hy
 ·refine iv.fr t u hu' hne' fun j o' hj ho' hd=>?_
  have:=hall j o' hj ho' hd
  by_cases e:x.1=j
  ·subst e
   rw[ho]at ho';cases ho'
   rw[hod]at hd;cases hd
  ·rwa [getD_set_ne false e]at this
 ·have hbw:=yv e1
  refine⟨by rw[getD_set_ne false (hqi x hx')];exact g1,g2,g3,g4,?_,fun m hm=>?_,fun m y hy=>?_,fun m hm=>?_,es.push ⟨(kvA kvl n).1.γ E ρ,(kvA kvl n).2.γ E ρ,es.size⟩,?_,?_,fun i e he=>?_⟩
  ·rw[List.nodup_append]
   exact⟨g5,by simp,fun m hm k hk=>by
    have:k=n:=by simpa using hk
    subst this
    intro e;subst e;exact hnl hm⟩
  ·rcases List.mem_append.1 hm with hm | hm
   ·exact g6 m hm
   ·obtain rfl:=List.mem_singleton.1 hm
    exact(List.getElem?_eq_some_iff.1 hx).1
  ·by_cases e:y.1=x.1
   ·have:=hii m y hy e
    subst this
    rw[e,jL]
    simp
   ·rw[getD_set_ne false (fun e'=>e e'.symm)]
    rw[<- g7 m y hy]
    have:m≠n:=fun e'=>by
     subst e'
     rw[hx]at hy;cases hy
     exact e rfl
    simp[this]
  ·rcases List.mem_append.1 hm with hm | hm
   ·exact g8 m hm
   ·obtain rfl:=List.mem_singleton.1 hm
    exact⟨b1,b2⟩
  ·show (w.heap.setIfInBounds b _)[b]? = _
   rw[Array.getElem?_setIfInBounds,if_pos rfl,if_pos hbw,Array.size_push]
  ·simp[e2]
  ·rw[Array.getElem?_push]at he
   split at he
   ·rename_i hi
    cases he
    exact hi.symm
   ·exact e3 i e he
end
theorem zfW {α:Type} {x:α}:∀ {y:α} {r:List α},x∈r->∃ s z t,y::r=s ++ z::x::t
 | y,[],h=>by cases h
 | y,a::r,h=>by
  rcases List.mem_cons.1 h with rfl | h
  ·exact⟨[],y,r,rfl⟩
  ·obtain⟨s,z,t,e⟩:=zfW (y:=a) h
   exact⟨y::s,z,t,by rw[e];rfl⟩
theorem MapSt.q_cs {ops:Array Oper} {qs cs:List (Nat × List Nat)} {q dq:Nat} {ins:List (Nat × List Nat)} {ty:TypeId} {n0:Nat} (st:MapSt ops qs cs q dq ins ty n0) {x y:Nat × List Nat} (hx:x∈qs) (hy:y∈cs):y.1≠x.1:=by
 have h:=(List.nodup_append.1 st.nd).2.2 x.1 (List.mem_map_of_mem hx) y.1 (List.mem_append_left _ (List.mem_map_of_mem hy))
 exact fun e=>h e.symm
theorem MapSt.q_q {ops:Array Oper} {qs cs:List (Nat × List Nat)} {q dq:Nat} {ins:List (Nat × List Nat)} {ty:TypeId} {n0:Nat} (st:MapSt ops qs cs q dq ins ty n0) {x:Nat × List Nat} (hx:x∈qs):x.1≠q:=
 (List.nodup_append.1 st.nd).2.2 x.1 (List.mem_map_of_mem hx) q (by simp)
theorem MapSt.q_ins {ops:Array Oper} {qs cs:List (Nat × List Nat)} {q dq:Nat} {ins:List (Nat × List Nat)} {ty:TypeId} {n0:Nat} (st:MapSt ops qs cs q dq ins ty n0) {x y:Nat × List Nat} (hx:x∈qs) (hy:y∈ins):y.1≠x.1:=by
 have h:=(List.nodup_append.1 st.nd).2.2 x.1 (List.mem_map_of_mem hx) y.1 (List.mem_append_right _ (List.mem_cons_of_mem _ (List.mem_map_of_mem hy)))
 exact fun e=>h e.symm
theorem MapSt.c_q {ops:Array Oper} {qs cs:List (Nat × List Nat)} {q dq:Nat} {ins:List (Nat × List Nat)} {ty:TypeId} {n0:Nat} (st:MapSt ops qs cs q dq ins ty n0) {x:Nat × List Nat} (hx:x∈cs):x.1≠q:=
 (List.nodup_append.1 (List.nodup_append.1 st.nd).2.1).2.2 x.1 (List.mem_map_of_mem hx) q (by simp)
theorem MapSt.c_ins {ops:Array Oper} {qs cs:List (Nat × List Nat)} {q dq:Nat} {ins:List (Nat × List Nat)} {ty:TypeId} {n0:Nat} (st:MapSt ops qs cs q dq ins ty n0) {x y:Nat × List Nat} (hx:x∈cs) (hy:y∈ins):y.1≠x.1:=by
 have h:=(List.nodup_append.1 (List.nodup_append.1 st.nd).2.1).2.2 x.1 (List.mem_map_of_mem hx) y.1 (List.mem_cons_of_mem _ (List.mem_map_of_mem hy))
 exact fun e=>h e.symm
theorem MapSt.i_q {ops:Array Oper} {qs cs:List (Nat × List Nat)} {q dq:Nat} {ins:List (Nat × List Nat)} {ty:TypeId} {n0:Nat} (st:MapSt ops qs cs q dq ins ty n0) {x:Nat × List Nat} (hx:x∈ins):x.1≠q:=by
 have h:=(List.nodup_cons.1 (List.nodup_append.1 (List.nodup_append.1 st.nd).2.1).2.1).1
 exact fun e=>h (by rw[<- e];exact List.mem_map_of_mem hx)
theorem MapSt.i_i {ops:Array Oper} {qs cs:List (Nat × List Nat)} {q dq:Nat} {ins:List (Nat × List Nat)} {ty:TypeId} {n0:Nat} (st:MapSt ops qs cs q dq ins ty n0) {n m:Nat} {x y:Nat × List Nat} (hx:ins[n]? = some x) (hy:ins[m]? = some y) (h:x.1=y.1):n=m:=by
 have hnd:=(List.nodup_cons.1 (List.nodup_append.1 (List.nodup_append.1 st.nd).2.1).2.1).2
 obtain⟨h1,e1⟩:=List.getElem?_eq_some_iff.1 hx
 obtain⟨h2,e2⟩:=List.getElem?_eq_some_iff.1 hy
 have:=(List.getElem_inj (xs:=ins.map (·.1)) (i:=n) (j:=m) (h₀:=by simpa using h1) (h₁:=by simpa using h2) hnd).1 (by simp[e1,e2,h])
 exact this
theorem mapK_go {Y:Ty} (hY:TyOk P Y) {ops:Array Oper} {qs cs:List (Nat × List Nat)} {q dq:Nat} {ins:List (Nat × List Nat)} {ty:TypeId} {n0:Nat} (st:MapSt ops qs cs q dq ins ty n0) {FR:Fr} {hS:H} {kvl:List (V × V)} {DS:List Deferred} {ρ0:Rho} {h0:H} {w0:World}
  (hbS:∀ p o,hS.t.get p=some o->p.toNat<hS.n.toNat/\o.bd hS.n.toNat)
  (HQ:∀ x∈qs,∃ o,ops[x.1]? = some o/\o.guard=none/\∃ v:V,(∀ ρ n (a:Act) w,hS.n.toNat<=n->zf3 E ρ n FR a.tmps x.2->Sat E ρ hS w->(execOp a.eval o).run P w=.ok (.value (v.γ E ρ)) w/\v.bd n)/\zw4 E N FR o v)
  (HI:∀ (n:Nat) x,ins[n]? = some x->∃ o kx xx kk z,ops[x.1]? = some o/\o.op=.insert ty (.tmp dq) kx xx/\o.dst=none/\o.guard=none/\Y.mp ty=some (kk,z)/\ja kk (kvA kvl n).1=true /\
   (∀ m,m<ins.length->m≠n->ja kk (kvA kvl m).1=true/\V.beq (kvA kvl n).1 (kvA kvl m).1=false) /\
   ∀ ρ n' (a:Act),zf3 E ρ n' FR a.tmps x.2->a.eval kx=(kvA kvl n).1.γ E ρ/\(kvA kvl n).1.bd n'/\a.eval xx=(kvA kvl n).2.γ E ρ/\(kvA kvl n).2.bd n')
  {oq:Oper} (hoq:ops[q]? = some oq) (hqg:oq.guard=none) {tq:TypeId} (hqo:oq.op=.makeMap tq none) (hqd:oq.dst=some dq) (hdN:dq<N) {hN:H} {QQ:Exit->Act->World->Prop} {tlen:Nat}
  (fin:∀ b ll ρ w a L,MInv E N ops cs q dq ins n0 FR hS kvl DS ρ0 h0 w0 L [] (some (b,ll)) ρ hN w a->(∀ i,i<n0->L.getD i true=true)->wpAny P .any ops QQ tlen L a w) :
  ∀ (m:Nat) (L:Array Bool) (cr:List (Nat × List Nat)) (lq:Option (Nat × List Nat)) (ρ:Rho) (h:H) (w:World) (a:Act),cnt L n0=m->MInv E N ops cs q dq ins n0 FR hS kvl DS ρ0 h0 w0 L cr lq ρ h w a->Ch E P N ops FR hS cr h hN ->
   wpAny P .any ops QQ (m+tlen) L a w:=by
 intro m
 induction m with
 | zero=>
  intro L cr lq ρ h w a hc iv hch
  have all:=zBk hc
  rw[Nat.zero_add]
  cases lq with
  | none=>
   have:=iv.mp.1
   rw[all q st.q0]at this;cases this
  | some y=>
   obtain⟨b,ll⟩:=y
   cases hch with
   | nil=>exact fin b ll ρ w a L iv all
   | cons h1 h2 h3 h4 h5 h6=>
    rename_i x r h1' o v
    obtain⟨p,c1,c2,c3⟩:=iv.cs
    have g1:=c3 x (by simp)
    rw[all x.1 (st.lt x (by rw[c1];simp))]at g1
    cases g1
 | succ m ih=>
  intro L cr lq ρ h w a hc iv hch
  have szN:n0<=L.size:=by rw[iv.size];exact st.le
  have notall:¬ ∀ i,i<n0->L.getD i true=true:=fun hall=>by
   have:cnt L n0=0:=List.countP_eq_zero.2 fun i hi=>by
    rw[hall i (List.mem_range.1 hi)];simp
   omega
  rw[show m+1+tlen=(m+tlen)+1 by omega]
  refine⟨fun hr=>?_,fun i hi=>?_⟩
  ·obtain⟨i,hi,hu,hlow⟩:=zua (p:=fun i=>L.getD i true) n0 (by
    refine Classical.byContradiction fun hne=>notall fun i hi=>?_
    cases hp:L.getD i true with
    | true=>rfl
    | false=>exact absurd ⟨i,hi,hp⟩ hne)
   have:i∈Region.ready .any ops L:=by
    have his:i<ops.size:=Nat.lt_of_lt_of_le hi st.le
    refine mem_ready.2 ⟨hu,ops[i],by simp[his],fun e he hb=>?_⟩
    have hed:e.on∈EvQ.edgesOf ops i:=by
     simp only[EvQ.edgesOf,Array.getElem?_eq_getElem his,List.mem_map,List.mem_filter]
     exact⟨e,⟨by simpa using he,hb⟩,rfl⟩
    have hlt:=st.low i hi _ hed
    rw[<- zaN (by omega)]
    exact hlow _ hlt
   rw[hr]at this;cases this
  ·obtain⟨hu,o,ho,_⟩:=mem_ready.1 hi
   have his:i<ops.size:=(Array.getElem?_eq_some_iff.1 ho).1
   have hin:i<n0:=by
    rcases Nat.lt_or_ge i n0 with h1 | h1
    ·exact h1
    ·refine absurd (fun j hj=>?_) notall
     have:=EvQ.ready_edges hi j (st.tl i h1 his j hj)
     rw[zaN (by omega)];exact this
   have hcs:=cnt_set hin (by omega) hu
   have hc':cnt (L.setIfInBounds i true) n0=m:=by omega
   obtain⟨p,c1,c2,c3⟩:=iv.cs
   have keepcs:(∀ y∈cs,y.1≠i)->∃ p,cs=p ++ cr/\(∀ x∈p,(L.setIfInBounds i true).getD x.1 false=true)/\∀ x∈cr,(L.setIfInBounds i true).getD x.1 true=false:=fun hne=>
    ⟨p,c1,fun x hx=>by rw[getD_set_ne false (fun e=>hne x (by rw[c1];exact List.mem_append_left _ hx) e.symm)];exact c2 x hx,fun x hx=>by rw[getD_set_ne true (fun e=>hne x (by rw[c1];exact List.mem_append_right _ hx) e.symm)];exact c3 x hx⟩
   have nodq:i≠q->o.dst≠some dq:=fun hne hd=>hne (st.dst i q o oq dq hin st.q0 ho hoq hd hqd)
   rcases List.mem_append.1 (st.cov i hin) with hq | hq
   ·-- a quiet one
    obtain⟨x,hx,rfl⟩:=List.mem_map.1 hq
    obtain⟨o',ho',hg,v,hv,hd⟩:=HQ x hx
    rw[ho]at ho';cases ho'
    have hf:=iv.slots st (x:=x) (by simp[hx]) hi
    obtain⟨r1,r2⟩:=hv ρ h.n.toNat a w iv.hn hf (sat_sub iv.sat iv.keep hbS)
    unfold wpOp
    simp only[ho]
    rw[if_pos (by simp[Region.wanted,hg])]
    refine .inl ?_
    unfold Oper.wp
    rw[r1]
    exact ih _ cr lq ρ h w _ hc' (iv.adv st ho hin hu (st.q_q hx) (nodq (st.q_q hx)) (fun y hy=>st.q_ins hx hy) hd iv.sat (iv.sat.refl E) r2 iv.keep (keepcs fun y hy=>st.q_cs hx hy)) hch
   rcases List.mem_append.1 hq with hq | hq
   ·-- a call
    obtain⟨x,hx,rfl⟩:=List.mem_map.1 hq
    have hxr:x∈cr:=by
     rw[c1]at hx
     rcases List.mem_append.1 hx with hx | hx
     ·have:=c2 x hx
      rw[<- zaN (by omega),hu]at this;cases this
     ·exact hx
    cases hch with
    | nil=>cases hxr
    | cons k1 k2 k3 k4 k5 k6=>
     rename_i y r h1 o' v
     have hxy:x=y:=by
      rcases List.mem_cons.1 hxr with e | hm
      ·exact e
      ·obtain⟨s,z,t,e⟩:=zfW (y:=y) hm
       have h2:=EvQ.ready_edges hi z.1 (st.ch (p ++ s) z x t (by rw[c1,e,List.append_assoc]))
       have h3:=c3 z (by rw[e];simp)
       have h4:=st.lt z (by rw[c1,e];simp)
       rw[zaN (by omega),h2]at h3;cases h3
     subst hxy
     rw[ho]at k1;cases k1
     have hf:=iv.slots st (x:=x) (by simp[hx]) hi
     unfold wpOp
     simp only[ho]
     rw[if_pos (by simp[Region.wanted,k2])]
     refine .inl (jB ?_ (k5 ρ a w QQ hf iv.sat))
     rintro a1 w1 ⟨ρ1,rfl,s1,x1,hb⟩
     have jL:(L.setIfInBounds x.1 true).getD x.1 false=true:=by simp[Array.getD_eq_getD_getElem?,Array.getElem?_setIfInBounds,show x.1<L.size by omega]
     have hrest:∀ z∈r,z.1≠x.1:=fun z hz e=>by
      have hnd:=(List.nodup_append.1 (List.nodup_append.1 st.nd).2.1).1
      rw[c1,List.map_append,List.map_cons]at hnd
      have:=(List.nodup_cons.1 (List.nodup_append.1 hnd).2.1).1
      exact this (by rw[<- e];exact List.mem_map_of_mem hz)
     refine ih _ r lq ρ1 h1 w1 _ hc' (iv.adv st ho hin hu (st.c_q hx) (nodq (st.c_q hx)) (fun y hy=>st.c_ins hx hy) k4 s1 x1 hb k3 ⟨p ++ [x],by rw[c1];simp,fun z hz=>?_,fun z hz=>?_⟩) k6
     ·rcases List.mem_append.1 hz with hz | hz
      ·by_cases e:x.1=z.1
       ·rw[<- e];exact jL
       ·rw[getD_set_ne false e];exact c2 z hz
      ·obtain rfl:=List.mem_singleton.1 hz
       exact jL
     ·rw[getD_set_ne true (fun e=>hrest z hz e.symm)]
      exact c3 z (List.mem_cons_of_mem _ hz)
   rcases List.mem_cons.1 hq with rfl | hq
   ·-- the map
    have eo:o=oq:=Option.some.inj (ho.symm.trans hoq)
    rw[<- eo]at hqg hqo hqd
    cases lq with
    | some y=>
     have:=iv.mp.1
     rw[<- zaN (by omega),hu]at this;cases this
    | none=>
     unfold wpOp
     simp only[ho]
     rw[if_pos (by simp[Region.wanted,hqg])]
     refine .inl ?_
     unfold Oper.wp
     rw[show (execOp a.eval o).run P w=.ok (.value (.map (some w.heap.size))) (w.alloc (.map #[] 0)) by simp[execOp,hqo,Instr.makeMap]]
     have:=iv.make st (fun y hy=>st.c_q hy) (fun y hy=>st.i_q hy) (Nat.lt_of_lt_of_le hdN iv.sz) ho hqd
     show wpAny P .any ops QQ (m+tlen) (L.setIfInBounds i true) (a.put o.dst (.map (some w.heap.size))) (w.alloc (.map #[] 0))
     rw[hqd]
     exact ih _ cr _ ρ h _ _ hc' this hch
   ·-- one is laid into it
    obtain⟨x,hx,rfl⟩:=List.mem_map.1 hq
    obtain⟨n,hn⟩:=List.getElem?_of_mem hx
    obtain⟨o',kx,xx,kk,z,ho',hop,hod,hg,hmp,hkb,hall,hev⟩:=HI n x hn
    rw[ho]at ho';cases ho'
    cases lq with
    | none=>
     have h1:=EvQ.ready_edges hi q (st.insq x hx)
     have h2:=iv.mp.1
     have:=st.q0
     rw[zaN (by omega),h1]at h2;cases h2
    | some y=>
     obtain⟨b,ll⟩:=y
     obtain⟨g1,g2,g3,g4,g5,g6,g7,g8,es,e1,e2,e3⟩:=iv.mp
     obtain⟨v1,v2,v3,v4⟩:=hev ρ h.n.toNat a (iv.slots st (x:=x) (by simp[hx]) hi)
     have hnl:n∉ll:=fun hm=>by
      have:=(g7 n x hn).1 hm
      rw[<- zaN (by omega),hu]at this;cases this
     have hf:yt kk (kvA kvl n).1 (ll.map (kvA kvl)) 0=some none:=zbk fun p' hp=>by
      obtain⟨k,hk,rfl⟩:=List.mem_map.1 hp
      exact hall k (g6 k hk) (fun e=>hnl (e ▸ hk))
     have hraw:=ins_raw (v:=(kvA kvl n).2) hY hmp e1 e2 hkb hf
     unfold wpOp
     simp only[ho]
     rw[if_pos (by simp[Region.wanted,hg])]
     refine .inl ?_
     unfold Oper.wp
     have hm:a.eval (.tmp dq)=.map (some b):=by simp[Act.eval,g2]
     rw[show (execOp a.eval o).run P w=.ok .skip { w with heap:=w.heap.setIfInBounds b (.map (es.push ⟨(kvA kvl n).1.γ E ρ,(kvA kvl n).2.γ E ρ,es.size⟩) (es.size+1)) } by simp[execOp,hop,hm,v1,v3,hraw]]
     show wpAny P .any ops QQ (m+tlen) (L.setIfInBounds x.1 true) (a.put o.dst undef) _
     rw[hod]
     exact ih _ cr _ ρ h _ _ hc' (iv.lay st hn hu (fun y hy=>st.i_q hy) (fun y hy=>fun e=>st.c_ins hy hx e.symm) (fun n' x' hn' e=>st.i_i hn' hn e) ho hod v2 v4 e1 e2 e3) hch
theorem zfS {Y:Ty} {all:List Oper} {i:Nat} {sl:List Nat} {r:List (Nat × List Nat)} {l:List (List Ky × OI)} (h:cSl Y N all ((i,sl)::r)=some l):∃ o x l',nth all i=some o/\jQ Y N all o=some x/\cSl Y N all r=some l'/\l=(sl.map zp,x)::l':=by
 simp only[cSl]at h
 split at h
 ·rename_i o r' ho hr
  split at h
  ·rename_i x hx
   simp at h;subst h
   exact⟨o,x,r',ho,hx,hr,rfl⟩
  ·simp at h
 ·simp at h
theorem qs_all {Y:Ty} (hY:TyOk P Y) {ops:Array Oper} {c:Ctx} {FR:Fr} {hS:H} {fa:Fa} (hfa:FaOk E fa) {K:Nat}:∀ (qs:List (Nat × List Nat)) (l:List (List Ky × OI)),cSl Y N ops.toList qs=some l->yC K (mqC c FR hS fa) l=0 ->
  K=0/\∀ x∈qs,∃ o,ops[x.1]? = some o/\o.guard=none/\∃ v:V,(∀ ρ n (a:Act) w,hS.n.toNat<=n->zf3 E ρ n FR a.tmps x.2->Sat E ρ hS w->(execOp a.eval o).run P w=.ok (.value (v.γ E ρ)) w/\v.bd n)/\zw4 E N FR o v
 | [],l,hl,hk=>by
  simp[cSl]at hl;subst hl
  exact⟨hk,fun x hx=>by cases hx⟩
 | (i,sl)::r,l,hl,hk=>by
  obtain⟨o,x,l',ho,hx,hl',rfl⟩:=zfS hl
  rw[zX,Array.getElem?_toList]at ho
  obtain⟨h1,hg,v,hv,hd⟩:=q_step hY hx hfa (show mqC c FR hS fa (sl.map zp,x) l' (yC K (mqC c FR hS fa) l')=0 from hk)
  obtain⟨h2,h3⟩:=qs_all hY hfa r l' hl' h1
  refine⟨h2,fun y hy=>?_⟩
  rcases List.mem_cons.1 hy with rfl | hy
  ·exact⟨o,ho,hg,v,hv,hd⟩
  ·exact h3 y hy
theorem cs_all {Y:Ty} {ops:Array Oper} {c:Ctx} (hcall:zi E P c.call) {FR:Fr} {ids:List Ev.P} {hS:H} (hids:∀ p o,hS.t.get p=some o->p∈ids) {K:H->Fa->Nat}:∀ (cs:List (Nat × List Nat)) (l:List (List Ky × OI)) (h:H) (fa:Fa),cSl Y N ops.toList cs=some l->FaOk E fa ->
  yC mcZ (mcC c FR ids hS) l h fa K=0->∃ hN fa',Ch E P N ops FR hS cs h hN/\FaOk E fa'/\K hN fa'=0
 | [],l,h,fa,hl,hfa,hk=>by
  simp[cSl]at hl;subst hl
  exact⟨h,fa,.nil h,hfa,hk⟩
 | (i,sl)::r,l,h,fa,hl,hfa,hk=>by
  obtain⟨o,x,l',ho,hx,hl',rfl⟩:=zfS hl
  rw[zX,Array.getElem?_toList]at ho
  obtain⟨v,h1,fa1,hk1,hfa1,hke,hg,hd,hw⟩:=c_step hx hcall hids hfa (show mcC c FR ids hS (sl.map zp,x) l' (yC mcZ (mcC c FR ids hS) l') h fa K=0 from hk)
  obtain⟨hN,fa',h2,h3,h4⟩:=cs_all hcall hids r l' h1 fa1 hl' hfa1 hk1
  exact⟨hN,fa',.cons (x:=(i,sl)) ho hg hke hd hw h2,h3,h4⟩
def InsAt (E:Env) (Y:Ty) (ops:Array Oper) (ty dq:Nat) (FR:Fr) (x:Nat × List Nat) (l:List (V × V)) (kv:V × V):Prop:=∃ o kx xx kk z,ops[x.1]? = some o/\o.op=.insert ty (.tmp dq) kx xx/\o.dst=none/\o.guard=none/\Y.mp ty=some (kk,z)/\ja kk kv.1=true/\yt kk kv.1 l 0=some none /\
 ∀ ρ n' (a:Act),zf3 E ρ n' FR a.tmps x.2->a.eval kx=kv.1.γ E ρ/\kv.1.bd n'/\a.eval xx=kv.2.γ E ρ/\kv.2.bd n'
theorem zwE {Y:Ty} {ops:Array Oper} {ty dq:Nat} {c:Ctx} {FR:Fr} {k:List (V × V)->Nat}:∀ (ins:List (Nat × List Nat)) (l':List (List Ky × OI)) (l:List (V × V)),cSl Y N ops.toList ins=some l'->(∀ x∈ins,zwB ops ty dq x.1=true)->yC miZ (miC c FR) l' l k=0 ->
  ∃ kvs:List (V × V),kvs.length=ins.length/\k (l ++ kvs)=0/\∀ (n:Nat) x,ins[n]? = some x->InsAt E Y ops ty dq FR x (l ++ kvs.take n) (kvA kvs n)
 | [],l',l,hl,_,hk=>by
  simp[cSl]at hl;subst hl
  have hk:k l=0:=hk
  exact⟨[],rfl,by simpa using hk,fun n x hx=>by simp at hx⟩
 | (i,sl)::r,l',l,hl,hi,hk=>by
  obtain⟨o,x,l2,ho,hx,hl2,rfl⟩:=zfS hl
  rw[zX,Array.getElem?_toList]at ho
  have h1:=hi (i,sl) (by simp)
  unfold zwB at h1
  simp only[ho,Bool.and_eq_true]at h1
  obtain⟨hod,hop⟩:=h1
  have hod:o.dst=none:=by simpa using hod
  split at hop
  ·rename_i t m kx xx hop'
   simp only[Bool.and_eq_true,Nat.beq_eq]at hop
   obtain⟨rfl,rfl⟩:=hop
   obtain⟨kk,z,kv,v,hmp,hk,hg,hkb,hf,hev⟩:=i_step (E:=E) hx (show miC c FR (sl.map zp,x) l2 (yC miZ (miC c FR) l2) l k=0 from hk) hop'
   obtain⟨kvs,g1,g2,g3⟩:=zwE r l2 (l ++ [(kv,v)]) hl2 (fun y hy=>hi y (by simp[hy])) hk
   refine⟨(kv,v)::kvs,by simp[g1],by simpa using g2,fun n y hy=>?_⟩
   cases n with
   | zero=>
    have:(i,sl)=y:=by simpa using hy
    subst this
    exact⟨o,kx,xx,kk,z,ho,hop',hod,hg,hmp,hkb,by simpa [kvA] using hf,hev⟩
   | succ n=>
    have:=g3 n y (by simpa using hy)
    simpa [kvA] using this
  ·cases hop
theorem zx6 {ops:Array Oper} {n0:Nat} {l:List Nat} (h:(List.range n0).all (fun i=>l.contains i && (EvQ.edgesOf ops i).all (fun j=>Nat.blt j i))=true):∀ i,i<n0->i∈l/\∀ j∈EvQ.edgesOf ops i,j<i:=by
 intro i hi
 simp only[List.all_eq_true,List.mem_range,Bool.and_eq_true,List.contains_iff_mem,Nat.blt_eq]at h
 exact h i hi
theorem chB_ok {ops:Array Oper}:∀ {cs:List (Nat × List Nat)},chB ops cs=true->∀ p a b r,cs=p ++ a::b::r->a.1∈EvQ.edgesOf ops b.1
 | [],_,p,a,b,r,e=>by cases p <;> cases e
 | [_],_,p,a,b,r,e=>by
  cases p with
  | nil=>cases e
  | cons y p=>cases p <;> cases e
 | x::y::t,h,p,a,b,r,e=>by
  simp only[chB,Bool.and_eq_true,List.contains_iff_mem]at h
  cases p with
  | nil=>cases e;exact h.1
  | cons z p=>
   have e:x::y::t=z::(p ++ a::b::r):=e
   injection e with e1 e2
   exact chB_ok h.2 p a b r e2
theorem zuj {ops:Array Oper} {o:Oper} {t i:Nat} (ho:ops[i]? = some o) (hd:o.dst=some t):∀ {l:List Nat},i∈l->t∈zck ops l
 | [],h=>by cases h
 | j::r,h=>by
  rcases List.mem_cons.1 h with rfl | h
  ·simp[zck,ho,hd]
  ·have:=zuj ho hd h
   simp only[zck]
   split
   ·split
    ·exact List.mem_cons_of_mem _ this
    ·exact this
   ·exact this
theorem zuk {ops:Array Oper} {i j:Nat} {o o':Oper} {t:Nat} (hoi:ops[i]? = some o) (hoj:ops[j]? = some o') (hd:o.dst=some t) (hd':o'.dst=some t):∀ {l:List Nat},(zck ops l).Nodup->i∈l->j∈l->i=j
 | [],_,h,_=>by cases h
 | k::r,hn,hi,hj=>by
  have tail:(zck ops r).Nodup:=by
   simp only[zck]at hn
   split at hn
   ·split at hn
    ·exact(List.nodup_cons.1 hn).2
    ·exact hn
   ·exact hn
  have head:∀ {k':Nat} {o2:Oper},k=k'->ops[k']? = some o2->o2.dst=some t->∀ {m:Nat} {o3:Oper},ops[m]? = some o3->o3.dst=some t->m∉r:=by
   intro k' o2 e h2 h3 m o3 h4 h5 hm
   subst e
   simp only[zck,h2,h3]at hn
   exact(List.nodup_cons.1 hn).1 (zuj h4 h5 hm)
  rcases List.mem_cons.1 hi with hi | hi <;> rcases List.mem_cons.1 hj with hj | hj
  ·rw[hi,hj]
  ·exact absurd hj (head hi.symm hoi hd hoj hd')
  ·exact absurd hi (head hj.symm hoj hd' hoi hd)
  ·exact zuk hoi hoj hd hd' tail hi hj
theorem dstB_ok {ops:Array Oper} {es:List Nat} {t:Nat} (h:dstB ops es t=true):∀ j o,ops[j]? = some o->o.dst=some t->j∈es:=by
 intro j o ho hd
 simp only[dstB,List.all_eq_true,List.mem_range]at h
 have:=h j (Array.getElem?_eq_some_iff.1 ho).1
 simp only[ho,hd,Bool.or_eq_true,Bool.not_eq_true',List.contains_iff_mem]at this
 rcases this with h1 | h1
 ·simp at h1
 ·exact h1
theorem zAg {ops:Array Oper} {ord:List Nat} {qs cs:List (Nat × List Nat)} {q:Nat} {ins:List (Nat × List Nat)} {n0 dq:Nat} (hdq:dstK ops.toList q=some dq) (h:zws ops ord qs cs q ins n0=true) :
  MapSt ops qs cs q dq ins (ziR ops ins) n0/\(∀ i∈ord,i<n0)/\(∃ oq tq,ops[q]? = some oq/\oq.guard=none/\oq.op=.makeMap tq none/\oq.dst=some dq)/\(∀ x∈ins,zwB ops (ziR ops ins) dq x.1=true) /\
   jV ops (List.range' n0 (ops.size - n0)) (Array.replicate n0 true ++ Array.replicate (ops.size - n0) false)=true:=by
 unfold zws at h
 rw[hdq]at h
 simp only[Bool.and_eq_true,decide_eq_true_eq]at h
 obtain⟨⟨⟨⟨⟨⟨⟨⟨⟨⟨⟨hord,hle⟩,hq⟩,hmk⟩,hnd⟩,hcov⟩,hsl⟩,hch⟩,hins⟩,hdst⟩,htl⟩,hchain⟩:=h
 have hc:=zx6 hcov
 simp only[List.all_eq_true,Bool.and_eq_true,decide_eq_true_eq,List.contains_iff_mem]at hsl hins hord
 refine⟨⟨hle,hq,hnd,fun i hi=>(hc i hi).1,fun i hi=>(hc i hi).2,fun x hx=>(hsl x hx).1,fun x hx t ht=>?_,chB_ok hch,fun x hx=>(hins x hx).1,fun i j o o' t hi hj ho ho' hd hd'=>zuk ho ho' hd hd' hdst (List.mem_range.2 hi) (List.mem_range.2 hj),fun i h1 h2 j hj=>?_⟩,hord,?_,fun x hx=>(hins x hx).2,hchain⟩
 ·have:=(hsl x hx).2
  simp only[slB,List.all_eq_true,Bool.and_eq_true,Bool.not_eq_true']at this
  obtain⟨g1,g2⟩:=this t ht
  exact⟨fun e=>by subst e;simp at g1,dstB_ok g2⟩
 ·simp only[List.all_eq_true,List.contains_iff_mem,List.mem_range]at htl
  exact htl i (List.mem_range'_1.2 ⟨h1,by omega⟩) j hj
 ·unfold isMk at hmk
  split at hmk
  ·rename_i o ho
   simp only[Bool.and_eq_true]at hmk
   obtain⟨⟨h1,h2⟩,h3⟩:=hmk
   split at h2
   ·rename_i d hd
    split at h3
    ·rename_i t ht
     refine⟨o,t,ho,by simpa using h1,ht,?_⟩
     rw[hd]
     simpa using h2
    ·cases h3
   ·cases h2
  ·cases hmk
theorem zty (kvl:List (V × V)):(List.range kvl.length).map (kvA kvl)=kvl:=by
 apply List.ext_getElem?
 intro i
 rw[List.getElem?_map]
 by_cases h:i<kvl.length
 ·rw[List.getElem?_range h]
  simp[kvA,h]
 ·rw[List.getElem?_eq_none (by simpa using h),List.getElem?_eq_none (by simpa using h)]
  rfl
theorem zAf {Y:Ty} (hY:TyOk P Y) (hm:P.follows .mixedOrders=true) {g:Ctx} (hcall:zi E P g.call) {id:Nat} {ops:Array Oper} {ks ord:List Nat} {qs cs:List (Nat × List Nat)} {q:Nat} {ins:List (Nat × List Nat)} {n0:Nat} (hB:zws ops ord qs cs q ins n0=true)
  {pre:List OI} {qs' cs' ins':List (List Ky × OI)} {dq:Nat} {t':List OI} (hpre:zY Y N ops.toList (yW ops.toList ord)=some pre) (hqs:cSl Y N ops.toList qs=some qs') (hcs:cSl Y N ops.toList cs=some cs') (hdq:dstK ops.toList q=some dq) (hdN:dq<N) (hins:cSl Y N ops.toList ins=some ins')
  (htl:zY Y N ops.toList (yW ops.toList (List.range' n0 (ops.size - n0)))=some t') {fr:Fr} {h:H} {fa:Fa} {k:K2} (hfa:FaOk E fa)
  (hk:jp (.seq (.mops ⟨ks.map zp,pre,((yW ops.toList ord).filterMap (·.dst)).map zp,qs',cs',zp dq,ins'⟩) (.ops t')) g fr h fa k=0):zeB E P N (.region id ops true) fr h k:=by
 obtain⟨st,hord,⟨oq,tq,hoq,hqg,hqo,hqd⟩,hisi,hchain⟩:=zAg hdq hB
 have hk:zfF fr h (err g 84) (ks.map zp) (fun ids hS=>zaM pre g fr h fa (fun F1 _ _=>zaL F1 (((yW ops.toList ord).filterMap (·.dst)).map zp) fr (fun FR=>
  yC (yC mcZ (mcC g FR ids hS) cs' h fa (fun h fa=>yC miZ (miC g FR) ins' [] (fun l=>zas h (.map l) (fun i h=>jC (some (zp dq)) (.mp i) FR (fun fr=>zaM t' g fr h fa (fun fr h fa=>k .normal fr h fa)))))) (mqC g FR hS fa) qs')))=0:=hk
 obtain⟨ids,hS,hk,hSn,hids,hke,hSat⟩:=zdD (zl _ _) (ks.map zp) hk
 obtain⟨F1,_,_,hk,_,_⟩:=zdv hY hcall _ _ fr h fa hpre hfa hk
 obtain⟨FR,hk,hFR⟩:=zdo _ _ (show yC zcV (zcW F1) (((yW ops.toList ord).filterMap (·.dst)).map zp) fr _=0 from hk)
 obtain⟨hk,HQ⟩:=qs_all hY hfa qs qs' hqs hk
 obtain⟨hN,fa1,hch,hfa1,hk⟩:=cs_all hcall hids cs cs' h fa hcs hfa hk
 obtain⟨kvl,hlen,hk,HI0⟩:=zwE (E:=E) (ty:=ziR ops ins) (dq:=dq) ins ins' [] hins hisi hk
 rw[List.nil_append,ji]at hk
 obtain⟨fr1,hk,hg1,hg2⟩:=zbH (show zb7 (zp dq) FR (.mp hN.n) (fun fr=>zaM t' g fr (hN.add (.map kvl)) fa1 (fun fr h fa=>k .normal fr h fa))=0 from hk)
 obtain⟨fr2,h2,fa2,hk2,hfa2,hrun⟩:=zaW hY hcall _ _ fr1 (hN.add (.map kvl)) fa1 htl hfa1 hk
 have HI:∀ (n:Nat) x,ins[n]? = some x->∃ o kx xx kk z,ops[x.1]? = some o/\o.op=.insert (ziR ops ins) (.tmp dq) kx xx/\o.dst=none/\o.guard=none/\Y.mp (ziR ops ins)=some (kk,z)/\ja kk (kvA kvl n).1=true /\
   (∀ m,m<ins.length->m≠n->ja kk (kvA kvl m).1=true/\V.beq (kvA kvl n).1 (kvA kvl m).1=false) /\
   ∀ ρ n' (a:Act),zf3 E ρ n' FR a.tmps x.2->a.eval kx=(kvA kvl n).1.γ E ρ/\(kvA kvl n).1.bd n'/\a.eval xx=(kvA kvl n).2.γ E ρ/\(kvA kvl n).2.bd n':=by
  intro n x hx
  obtain⟨o,kx,xx,kk,z,h1,h3,h4,h5,h6,h7,h8,h9⟩:=HI0 n x hx
  refine⟨o,kx,xx,kk,z,h1,h3,h4,h5,h6,h7,fun m hm hne=>?_,h9⟩
  obtain⟨o',kx',xx',kk',z',j1,j3,j4,j5,j6,j7,j8,j9⟩:=HI0 m _ (List.getElem?_eq_getElem hm)
  have ekk:kk'=kk:=by
   rw[h6]at j6;cases j6;rfl
  subst ekk
  have mem:∀ {a b:Nat},a<b->a<kvl.length->kvA kvl a∈([]:List (V × V)) ++ kvl.take b:=fun {a b} hab hal=>by
   rw[List.nil_append]
   have:(kvl.take b)[a]? = some (kvA kvl a):=by
    rw[List.getElem?_take,if_pos hab,List.getElem?_eq_getElem hal]
    simp[kvA,hal]
   exact List.mem_of_getElem? this
  have hnl:=(List.getElem?_eq_some_iff.1 hx).1
  refine⟨j7,?_⟩
  rcases Nat.lt_or_gt_of_ne hne with hlt | hgt
  ·exact(za5 h8 _ (mem hlt (by omega))).2
  ·have h10:=(za5 j8 _ (mem hgt (by omega))).2
   cases hb:V.beq (kvA kvl n).1 (kvA kvl m).1 with
   | false=>rfl
   | true=>
    have e:=key_eq h7 j7 hb
    rw[<- e]at h10
    rw[<- e,h10]at hb
    cases hb
 refine⟨.normal,fr2,h2,fa2,hk2,hfa2,fun {DS} ρ w a QQ hs hf hNs hd hQ=>?_⟩
 have hs1:Sat E ρ h { w with drawn:=w.drawn+1 }:=⟨hs.obj,hs.inj,hs.bd⟩
 have hx1:Ext ρ h w ρ h { w with drawn:=w.drawn+1 }:=jG hs
 have hbS:∀ p o,hS.t.get p=some o->p.toNat<hS.n.toNat/\o.bd hS.n.toNat:=(hSat E ρ _ hs1).bd
 refine wp_region_any hm ?_
 have L0:∀ (i:Nat),(Array.replicate ops.size false).getD i true=false ↔ i<ops.size:=fun i=>by
  by_cases h1:i<ops.size <;> simp[h1]
 have L1:∀ (i:Nat),¬ (Array.replicate ops.size false).getD i false=true:=fun i=>by
  by_cases h1:i<ops.size <;> simp[h1]
 have hn0:cnt (Array.replicate ops.size false) n0=n0:=by
  have:(List.range n0).countP (fun i=>!(Array.replicate ops.size false).getD i true)=(List.range n0).length:=List.countP_eq_length.2 fun i hi=>by
   have:=st.le
   rw[(L0 i).2 (by have:=List.mem_range.1 hi;omega)];rfl
  rw[List.length_range]at this
  exact this
 have hqs0:q<ops.size:=Nat.lt_of_lt_of_le st.q0 st.le
 have inv0:MInv E N ops cs q dq ins n0 FR hS kvl DS ρ h { w with drawn:=w.drawn+1 } (Array.replicate ops.size false) cs none ρ h { w with drawn:=w.drawn+1 } a:=by
  refine⟨by simp,fun i h1 h3=>(L0 i).2 h3,⟨[],rfl,fun x hx=>(by cases hx),fun x hx=>(L0 x.1).2 (Nat.lt_of_lt_of_le (st.lt x (by simp[hx])) st.le)⟩,hs1,hs1.refl E,hke,by rw[hSn];exact Nat.le_refl _,fun t v hv hne hall=>?_,hNs,hd,(L0 q).2 hqs0,fun x hx=>(L0 x.1).2 (Nat.lt_of_lt_of_le (st.lt x (by simp[hx])) st.le)⟩
  rcases hFR _ v hv with ⟨h1,_⟩ | h1
  ·obtain⟨d,hd1,hd2⟩:=List.mem_map.1 h1
   have:=zdA hd2
   subst this
   obtain⟨o,ho,hod⟩:=List.mem_filterMap.1 hd1
   have hpick:∀ {l:List Nat},o∈yW ops.toList l->∃ j∈l,ops[j]? = some o:=by
    intro l
    induction l with
    | nil=>intro hh;cases hh
    | cons j r ih=>
     intro hh
     simp only[yW]at hh
     split at hh
     ·rename_i y hy
      rw[zX,Array.getElem?_toList]at hy
      rcases List.mem_cons.1 hh with rfl | hh
      ·exact⟨j,by simp,hy⟩
      ·obtain⟨j',g1,g2⟩:=ih hh
       exact⟨j',by simp[g1],g2⟩
     ·obtain⟨j',g1,g2⟩:=ih hh
      exact⟨j',by simp[g1],g2⟩
   obtain⟨j,hj1,hj2⟩:=hpick ho
   exact absurd (hall j o (hord j hj1) hj2 hod) (L1 j)
  ·exact hf t v h1
 have hfuel:ops.size=n0+(ops.size - n0):=by have:=st.le;omega
 rw[show wpAny P .any ops QQ ops.size=wpAny P .any ops QQ (n0+(ops.size - n0)) by rw[<- hfuel]]
 refine mapK_go hY st (hN:=hN) (QQ:=QQ) hbS HQ HI hoq hqg hqo hqd hdN (fun b ll ρ2 w2 a2 L iv hall=>?_) n0 (Array.replicate ops.size false) cs none ρ h _ a hn0 inv0 hch
 obtain⟨g1,g2,g3,g4,g5,g6,g7,g8,es,e1,e2,e3⟩:=iv.mp
 -- all are listed but the tail
 have hL:L=Array.replicate n0 true ++ Array.replicate (ops.size - n0) false:=by
  apply Array.ext
  ·rw[iv.size];simp;have:=st.le;omega
  ·intro i h1 h3
   rw[iv.size]at h1
   rcases Nat.lt_or_ge i n0 with h5 | h5
   ·have:=hall i h5
    rw[Array.getElem_append_left (by simpa using h5)]
    simpa [iv.size,h1] using this
   ·have:=iv.tail i h5 h1
    rw[Array.getElem_append_right (by simpa using h5)]
    simpa [iv.size,h1] using this
 have hperm:ll.Perm (List.range ins.length):=by
  rw[List.perm_ext_iff_of_nodup g5 List.nodup_range]
  intro n
  rw[List.mem_range]
  refine⟨fun hn=>g6 n hn,fun hn=>?_⟩
  have hx:=List.getElem?_eq_getElem hn
  refine(g7 n _ hx).2 ?_
  have hxn:=st.lt ins[n] (by simp)
  rw[<- zaN (by rw[iv.size];exact Nat.lt_of_lt_of_le hxn st.le)]
  exact hall _ hxn
 have hbd:O.bd hN.n.toNat (.map kvl):=fun p hp=>by
  rw[<- zty kvl]at hp
  obtain⟨n,hn,rfl⟩:=List.mem_map.1 hp
  exact g8 n (hperm.mem_iff.2 (by rw[<- hlen];exact hn))
 have hkv:(ll.map (kvA kvl)).Perm kvl:=by
  have:=hperm.map (kvA kvl)
  rw[<- hlen,zty]at this
  exact this
 have s3:=zb9 iv.sat (.map kvl) hbd ⟨b,0⟩ g4 ⟨es,e1,by rw[e2];exact hkv.map _,e3⟩
 have x3:=zci (hx1.trans iv.ext) (fun p o hp=>(iv.sat.bd p o hp).1) (.map kvl) ⟨b,0⟩ g3
 have hag:∀ i:Ev.P,i.toNat<hN.n.toNat->jP ρ2 hN.n ⟨b,0⟩ i=ρ2 i:=fun i hi=>zao ρ2 _ hi
 have hf3:zw E (jP ρ2 hN.n ⟨b,0⟩) (hN.add (.map kvl)).n.toNat fr1 a2.tmps:=by
  intro t v hv
  by_cases e:t=dq
  ·subst e
   rw[hg1]at hv;cases hv
   exact⟨by rw[g2];simp[V.γ,yQ],by simp[V.bd,H.add]⟩
  ·rw[hg2 _ (fun e'=>e (zdA e'))]at hv
   obtain⟨p1,p2⟩:=iv.fr t v hv e fun j o hj _ _=>by
    rw[<- zaN (by rw[iv.size];exact Nat.lt_of_lt_of_le hj st.le)]
    exact hall j hj
   rw[p1,γ_agree E hag _ p2]
   exact⟨rfl,bd_mono (by simp[H.add]) _ p2⟩
 have:=hrun L (by rw[hL];exact hchain) (DS:=DS) _ w2 a2 QQ s3 hf3 iv.sz iv.df (fun a' w' hA=>hQ a' w' (hA.trans x3))
 simpa using this
end Go.Ev
end
set_option linter.unusedSimpArgs false
set_option linter.unusedVariables false
noncomputable section
namespace Go.Ev
open Go
variable {E:Env} {P:Program} {N:Nat}
theorem zbN {Y:Ty} (hY:TyOk P Y) {g:Ctx} (hcall:zi E P g.call) {ops:Array Oper} (hsel:Region.noSelect ops=true) {D tl:List Nat} (hrest:EvQ.restOk ops D=true) {ids:List Ev.P} {hS:H} (hids:∀ p o,hS.t.get p=some o->p∈ids) {k:K1}:∀ (ord:List (Bool × Nat)) (l:List (Bool × OI)) (fr:Fr) (h:H) (fa:Fa),
  zZ Y N ops.toList ord=some l->FaOk E fa->yk ids hS l g fr h fa k=0 ->
  ∃ fr' h' fa',k fr' h' fa'=0/\FaOk E fa'/\∀ listed,jv ops D tl ord listed=true->EvQ.Closed ops listed->∀ {DS:List Deferred} ρ0 ρ w a QQ,hS.n.toNat<=h.n.toNat->yr hS h->Sat E ρ0 hS w->(∀ p:Ev.P,p.toNat<hS.n.toNat->ρ p=ρ0 p)->Sat E ρ h w->zw E ρ h.n.toNat fr (a:Act).tmps->N<=a.tmps.size->a.defers=DS ->
   (∀ c a w,¬ QQ (.panic c) a w)->(∀ a' w' listed',At E N DS ρ h w fr' h' a' w'->jV ops tl listed'=true->wpAny P .any ops QQ tl.length listed' a' w')->EvQ.wpAnyT P ops QQ (Sat E ρ0 hS) D (tl.length+ord.length) listed a w
 | [],l,fr,h,fa,hl,hfa,hk=>by
  simp[zZ]at hl;subst hl
  exact⟨fr,h,fa,hk,hfa,fun listed hB hcl {DS} ρ0 ρ w a QQ hn hke hs0 ha hs hf hN hd hp hq=>by
   simp only[jv,Bool.and_eq_true]at hB
   exact EvQ.T_done hB.1 (hq a w listed ⟨ρ,hf,hN,hd,hs,hs.refl E⟩ hB.2)⟩
 | (true,i)::r,l,fr,h,fa,hl,hfa,hk=>by
  obtain⟨o,x,l2,ho,hx,hl2,rfl⟩:=yf hl
  rw[zX,Array.getElem?_toList]at ho
  have hk:OI.go qOp hNo x g fr hS fa (fun fr _ fa=>yk ids hS l2 g fr h fa k)=0:=hk
  obtain⟨d,gg,hd,hg,hxx⟩:=z8 hx
  rcases hxx with ⟨ii,hi,rfl⟩ | ⟨cl,f0,f,ll,hop,hcal,hf0,hll,rfl⟩
  rotate_left
  ·exact absurd (show err g 63=0 from hk) (zl _ _)
  have hk:qOp d gg ii g fr hS fa (fun fr _ fa=>yk ids hS l2 g fr h fa k)=0:=hk
  rcases yE hg hfa hk with ⟨fa1,hfa1,hk,hw⟩ | ⟨fa1,hfa1,hk,hw⟩
  ·obtain⟨hst,hk⟩:=zn hk (zl _ _)
   obtain⟨v,h',hk,hrun⟩:=yh hY hi hst hk (zl _ _)
   obtain⟨fr1,hk,hput⟩:=zP hfa1 hd hk
   obtain⟨fr2,h2,fa2,hk2,hfa2,hr2⟩:=zbN hY hcall hsel hrest hids r l2 fr1 h fa1 hl2 hfa1 hk
   refine⟨fr2,h2,fa2,hk2,hfa2,fun listed hB hcl {DS} ρ0 ρ w a QQ hn hke hs0 ha hs hf hN hdf hp hq=>?_⟩
   have conv:∀ w,Sat E ρ0 hS w->Sat E ρ hS w:=fun w s=>y6 (ρ0:=ρ) (h:=hS) ⟨fun p o hp=>O.Is_agree E (fun i hi=>ha i hi) (s.bd p o hp).2 (by rw[ha p (s.bd p o hp).1];exact s.obj p o hp),
    fun p q o o' hp hq l1 l2 he=>s.inj p q o o' hp hq l1 l2 (by rw[<- ha p (s.bd p o hp).1,<- ha q (s.bd q o' hq).1];exact he),s.bd⟩ s (fun p o hp _=>hp) (fun p hp=>(ha p hp).symm)
   simp only[jv,Bool.and_eq_true,decide_eq_true_eq]at hB
   obtain⟨⟨⟨⟨hD,hlt⟩,hfree⟩,hready⟩,hB⟩:=hB
   obtain⟨g1,g2,g3⟩:=hput ρ _ a hf hN (hrun E ρ _ a w hn hf (conv w hs0)).2
   refine EvQ.T_take hrest hcl (i:=i) ho (by simpa using hD) hsel hfree hready (fun c a w hh=>absurd hh (hp c _ w)) (.inl ⟨hw ρ _ a hf,fun w' hw'=>(hrun E ρ _ a w' hn hf (conv w' hw')).1⟩) hs0 ?_
   exact hr2 _ hB (hcl.add (by simpa using hready)) ρ0 ρ w _ QQ hn hke hs0 ha hs g1 g2 (g3.trans hdf) hp hq
  ·obtain⟨fr1,hk,hput⟩:=z7 hd hk
   obtain⟨fr2,h2,fa2,hk2,hfa2,hr2⟩:=zbN hY hcall hsel hrest hids r l2 fr1 h fa1 hl2 hfa1 hk
   refine⟨fr2,h2,fa2,hk2,hfa2,fun listed hB hcl {DS} ρ0 ρ w a QQ hn hke hs0 ha hs hf hN hdf hp hq=>?_⟩
   simp only[jv,Bool.and_eq_true,decide_eq_true_eq]at hB
   obtain⟨⟨⟨⟨hD,hlt⟩,hfree⟩,hready⟩,hB⟩:=hB
   obtain⟨g1,g2,g3⟩:=hput E ρ h.n.toNat a hf hN (by trivial)
   refine EvQ.T_take hrest hcl (i:=i) ho (by simpa using hD) hsel hfree hready (fun c a w hh=>absurd hh (hp c _ w)) (.inr ⟨hw ρ _ a hf,rfl⟩) hs0 ?_
   exact hr2 _ hB (hcl.add (by simpa using hready)) ρ0 ρ w _ QQ hn hke hs0 ha hs g1 g2 (g3.trans hdf) hp hq
 | (false,i)::r,l,fr,h,fa,hl,hfa,hk=>by
  obtain⟨o,x,l2,ho,hx,hl2,rfl⟩:=yf hl
  rw[zX,Array.getElem?_toList]at ho
  have hk:OI.go (kOp ids hS) (zt2 ids hS) x g fr h fa (fun fr h fa=>yk ids hS l2 g fr h fa k)=0:=hk
  obtain⟨d,gg,hd,hg,hxx⟩:=z8 hx
  have one:∀ fr1 h1 fa1,FaOk E fa1->yk ids hS l2 g fr1 h1 fa1 k=0 ->
    (∀ {DS:List Deferred} ρ w a QQ,(∀ p o,hS.t.get p=some o->p.toNat<hS.n.toNat)->hS.n.toNat<=h.n.toNat->yr hS h->Sat E ρ h w->zw E ρ h.n.toNat fr (a:Act).tmps->N<=a.tmps.size->a.defers=DS->wpOp P ops QQ i (fun a1 w1=>At E N DS ρ h w fr1 h1 a1 w1/\yr hS h1) a w) ->
    ∃ fr' h' fa',k fr' h' fa'=0/\FaOk E fa'/\∀ listed,jv ops D tl ((false,i)::r) listed=true->EvQ.Closed ops listed->∀ {DS:List Deferred} ρ0 ρ w a QQ,hS.n.toNat<=h.n.toNat->yr hS h->Sat E ρ0 hS w->(∀ p:Ev.P,p.toNat<hS.n.toNat->ρ p=ρ0 p)->Sat E ρ h w->zw E ρ h.n.toNat fr (a:Act).tmps->N<=a.tmps.size->a.defers=DS ->
     (∀ c a w,¬ QQ (.panic c) a w)->(∀ a' w' listed',At E N DS ρ h w fr' h' a' w'->jV ops tl listed'=true->wpAny P .any ops QQ tl.length listed' a' w')->EvQ.wpAnyT P ops QQ (Sat E ρ0 hS) D (tl.length+((false,i)::r).length) listed a w:=by
   intro fr1 h1 fa1 hfa1 hk1 hstep
   obtain⟨fr2,h2,fa2,hk2,hfa2,hr2⟩:=zbN hY hcall hsel hrest hids r l2 fr1 h1 fa1 hl2 hfa1 hk1
   refine⟨fr2,h2,fa2,hk2,hfa2,fun listed hB hcl {DS} ρ0 ρ w a QQ hn hke hs0 ha hs hf hN hdf hp hq=>?_⟩
   simp only[jv,Bool.and_eq_true,decide_eq_true_eq]at hB
   obtain⟨⟨⟨hD,hlt⟩,hready⟩,hB⟩:=hB
   refine EvQ.T_one (i:=i) (by simpa using hD) hready ?_
   refine zdO (hstep ρ w a QQ (fun p o hp=>(hs0.bd p o hp).1) hn hke hs hf hN hdf) ?_
   rintro a1 w1 ⟨⟨ρ1,f1,n1,d1,s1,x1⟩,hke1⟩
   have ha1:∀ p:Ev.P,p.toNat<hS.n.toNat->ρ1 p=ρ0 p:=fun p hp=>by rw[x1.agree p (by omega),ha p hp]
   have hs1:Sat E ρ0 hS w1:=y6 hs0 s1 hke1 ha1
   exact⟨hs1,hr2 _ hB (hcl.add (by rw[hready];simp)) ρ0 ρ1 w1 a1 QQ (Nat.le_trans hn x1.len) hke1 hs1 ha1 s1 f1 n1 d1 hp (fun a' w' L' hA=>hq a' w' L' (hA.trans x1))⟩
  rcases hxx with ⟨ii,hi,rfl⟩ | ⟨cl,f0,f,ll,hop,hcal,hf0,hll,rfl⟩
  ·have hk:jO g gg fr fa (fun fa=>evI ii fr h (fun v h1=>bc (zat ids hS h1) (yI d fa v fr (fun fr=>yk ids hS l2 g fr h1 fa k)) (err g 68)) (err g (yu ii))) (fun fa=>jC d (.tup []) fr (fun fr=>yk ids hS l2 g fr h fa k))=0:=hk
   rcases yE hg hfa hk with ⟨fa0,hfa0,hk,hw⟩ | ⟨fa0,hfa0,hk,hw⟩
   ·obtain⟨v,h1,hk,hrun⟩:=za7 hY hi hk (zl _ _)
    obtain⟨hkp,hk⟩:=zn hk (zl _ _)
    have hkeep:=jW hids hkp
    obtain⟨fr1,hk,hput⟩:=zP hfa0 hd hk
    refine one fr1 h1 fa0 hfa0 hk fun {DS} ρ w a QQ hbd hn hke hs hf hN hdf=>zbf ho (hw ρ _ a hf) ?_
    obtain⟨ρ',w',nx,hr,hnx,hs',hx',hb⟩:=hrun E ρ a w hf hs
    obtain⟨g1,g2,g3⟩:=hput ρ' _ a (hf.mono hx'.len hx'.agree) hN hb
    unfold Oper.wp
    rw[hr]
    have hgo:At E N DS ρ h w fr1 h1 (a.put o.dst (v.γ E ρ')) w'/\yr hS h1:=⟨⟨ρ',g1,g2,g3.trans hdf,hs',hx'⟩,hkeep⟩
    rcases hnx with rfl | ⟨rfl,rfl⟩
    ·exact hgo
    ·exact hgo
   ·obtain⟨fr1,hk,hput⟩:=z7 hd hk
    refine one fr1 h fa0 hfa0 hk fun {DS} ρ w a QQ hbd hn hke hs hf hN hdf=>zaE ho (hw ρ _ a hf) ?_
    obtain⟨g1,g2,g3⟩:=hput E ρ h.n.toNat a hf hN (by trivial)
    exact⟨⟨ρ,g1,g2,g3.trans hdf,hs,hs.refl E⟩,hke⟩
  ·have hk:jO g gg fr fa (fun fa=>jU f ll g fr h fa (fun v h1 fa=>bc (zat ids hS h1) (jC d v fr (fun fr=>yk ids hS l2 g fr h1 fa k)) (err g 70))) (fun fa=>jC d (.tup []) fr (fun fr=>yk ids hS l2 g fr h fa k))=0:=hk
   rcases yE hg hfa hk with ⟨fa0,hfa0,hk,hw⟩ | ⟨fa0,hfa0,hk,hw⟩
   ·obtain⟨F,vl,v,h1,fa1,hk,hfa1,hr,hdo⟩:=jY hop hcal hf0 hll hcall hfa0 hk
    obtain⟨hkp,hk⟩:=zn hk (zl _ _)
    have hkeep:=jW hids hkp
    obtain⟨fr1,hk,hput⟩:=z7 hd hk
    refine one fr1 h1 fa1 hfa1 hk fun {DS} ρ w a QQ hbd hn hke hs hf hN hdf=>zbf ho (hw ρ _ a hf) ?_
    obtain⟨hvb,hex⟩:=hr ρ _ a hf
    unfold Oper.wp
    rw[hex,Oper.upon_enter]
    refine(hdo ρ w hvb hs).mono ?_
    rintro e w' ⟨ρ',rfl,hs',hx',hb⟩
    obtain⟨g1,g2,g3⟩:=hput E ρ' _ a (hf.mono hx'.len hx'.agree) hN hb
    exact⟨⟨ρ',g1,g2,g3.trans hdf,hs',hx'⟩,hkeep⟩
   ·obtain⟨fr1,hk,hput⟩:=z7 hd hk
    refine one fr1 h fa0 hfa0 hk fun {DS} ρ w a QQ hbd hn hke hs hf hN hdf=>zaE ho (hw ρ _ a hf) ?_
    obtain⟨g1,g2,g3⟩:=hput E ρ h.n.toNat a hf hN (by trivial)
    exact⟨⟨ρ,g1,g2,g3.trans hdf,hs,hs.refl E⟩,hke⟩
theorem zvs {Y:Ty} (hY:TyOk P Y) (hm:P.follows .mixedOrders=true) {g:Ctx} (hcall:zi E P g.call) {id:Nat} {ops:Array Oper} {ks:List Nat} {ord:List (Bool × Nat)} {tl:List Nat} (hB:zd6 ops ord tl=true)
  {l:List (Bool × OI)} (hl:zZ Y N ops.toList ord=some l) {t:List OI} (ht:zY Y N ops.toList (yW ops.toList tl)=some t) {fr:Fr} {h:H} {fa:Fa} {k:K2} (hfa:FaOk E fa)
  (hk:jp (.seq (.kops (ks.map zp) l) (.ops t)) g fr h fa k=0):zeB E P N (.region id ops true) fr h k:=by
 simp only[zd6,Bool.and_eq_true,decide_eq_true_eq]at hB
 obtain⟨⟨⟨hsel,hlen⟩,hrest⟩,hgo⟩:=hB
 have hk:zfF fr h (err g 66) (ks.map zp) (fun ids hS=>yk ids hS l g fr h fa (fun fr h fa=>zaM t g fr h fa (fun fr h fa=>k .normal fr h fa)))=0:=hk
 obtain⟨ids,hS,hk,hSn,hids,hke,hSat⟩:=zdD (zl _ _) (ks.map zp) hk
 obtain⟨fr1,h1,fa1,hk1,hfa1,hr⟩:=zbN hY hcall hsel (tl:=tl) hrest hids ord l fr h fa hl hfa hk
 obtain⟨fr2,h2,fa2,hk2,hfa2,hc⟩:=zaW hY hcall tl t fr1 h1 fa1 ht hfa1 hk1
 refine⟨.normal,fr2,h2,fa2,hk2,hfa2,fun {DS} ρ w a QQ hs hf hN hd hQ=>?_⟩
 have hs1:Sat E ρ h { w with drawn:=w.drawn+1 }:=⟨hs.obj,hs.inj,hs.bd⟩
 have hx1:Ext ρ h w ρ h { w with drawn:=w.drawn+1 }:=jG hs
 refine Go.wp_mono (Q:=fun e a' w'=>e=.normal/\At E N DS ρ h w fr2 h2 a' w') (EvQ.wp_region_T (S:=Sat E ρ hS) (D:=ord.map (·.2)) hm ?_) (fun e a' w' ⟨he,hA⟩=>by rw[he];exact hQ a' w' hA)
 have key:=hr _ hgo (EvQ.Closed.none _) ρ ρ _ a (fun e a' w'=>e=.normal/\At E N DS ρ h w fr2 h2 a' w') (by rw[hSn];exact Nat.le_refl _) hke (hSat E ρ _ hs1) (fun _ _=>rfl) hs1 hf hN hd (fun c a w hh=>(by cases hh.1)) (by
  rintro a' w' L ⟨ρ1,f1,n1,d1,s1,x1⟩ hch
  exact hc L hch ρ1 w' a' _ s1 f1 n1 d1 (fun a2 w2 hA=>⟨rfl,(hA.trans x1).trans hx1⟩))
 rw[show tl.length+ord.length=ops.size by omega]at key
 exact key
end Go.Ev
end
set_option linter.unusedSimpArgs false
set_option linter.unusedVariables false
noncomputable section
namespace Go.Ev
open Go
variable {E:Env} {P:Program} {N:Nat}
theorem jz {g:Ctx} {fr:Fr} {h:H} {fa:Fa} {k:K2} (hk:jp .bad g fr h fa k=0):False:=zl _ _ hk
theorem yF {Y:Ty} (hY:TyOk P Y) (hm:P.follows .mixedOrders=true) {dr:Nat->Option Dr} {g:Ctx} (hcall:zi E P g.call):∀ (c:Code) (fr:Fr) (h:H) (fa:Fa) (k:K2),zH dr c=true->FaOk E fa ->
  jp (yo Y N dr c) g fr h fa k=0->zeB E P N c fr h k
 | .skip,fr,h,fa,k,hB,hfa,hk=>⟨.normal,fr,h,fa,hk,hfa,fun {DS} ρ w a QQ hs hf hN hd hQ=>wp_skip (hQ _ _ ⟨ρ,hf,hN,hd,hs,hs.refl E⟩)⟩
 | .ret,fr,h,fa,k,hB,hfa,hk=>⟨.ret,fr,h,fa,hk,hfa,fun {DS} ρ w a QQ hs hf hN hd hQ=>wp_ret (hQ _ _ ⟨ρ,hf,hN,hd,hs,hs.refl E⟩)⟩
 | .exit i,fr,h,fa,k,hB,hfa,hk=>⟨.exit i,fr,h,fa,hk,hfa,fun {DS} ρ w a QQ hs hf hN hd hQ=>wp_exit (hQ _ _ ⟨ρ,hf,hN,hd,hs,hs.refl E⟩)⟩
 | .label i,fr,h,fa,k,hB,hfa,hk=>⟨.normal,fr,h,fa,hk,hfa,fun {DS} ρ w a QQ hs hf hN hd hQ=>wp_label (hQ _ _ ⟨ρ,hf,hN,hd,hs,hs.refl E⟩)⟩
 | .seq x y,fr,h,fa,k,hB,hfa,hk=>by
  simp only[zH,Bool.and_eq_true]at hB
  have hk:jp (yo Y N dr x) g fr h fa (fun e fr h fa=>je e (jp (yo Y N dr y) g fr h fa k) (k .ret fr h fa) (fun i=>k (.exit i) fr h fa))=0:=hk
  obtain⟨ae,fr1,h1,fa1,hk1,hfa1,r1⟩:=yF hY hm hcall x fr h fa _ hB.1 hfa hk
  cases ae with
  | normal=>
   obtain⟨ae,fr2,h2,fa2,hk2,hfa2,r2⟩:=yF hY hm hcall y fr1 h1 fa1 k hB.2 hfa1 hk1
   refine⟨ae,fr2,h2,fa2,hk2,hfa2,fun {DS} ρ w a QQ hs hf hN hd hQ=>wp_seq (r1 ρ w a _ hs hf hN hd ?_)⟩
   rintro a1 w1 ⟨ρ1,f1,n1,d1,s1,x1⟩
   exact r2 ρ1 w1 a1 QQ s1 f1 n1 d1 fun a' w' hA=>hQ a' w' (hA.trans x1)
  | ret=>exact⟨.ret,fr1,h1,fa1,hk1,hfa1,fun {DS} ρ w a QQ hs hf hN hd hQ=>wp_seq (r1 ρ w a _ hs hf hN hd hQ)⟩
  | exit i=>exact⟨.exit i,fr1,h1,fa1,hk1,hfa1,fun {DS} ρ w a QQ hs hf hN hd hQ=>wp_seq (r1 ρ w a _ hs hf hN hd hQ)⟩
 | .cond o x y,fr,h,fa,k,hB,hfa,hk=>by
  simp only[zH,Bool.and_eq_true]at hB
  cases o with
  | tmp t=>
   have hk:way fa (fr.get (zp t)) (fun b fa=>bc b (jp (yo Y N dr x) g fr h fa k) (jp (yo Y N dr y) g fr h fa k)) (err g 44)=0:=hk
   obtain⟨v,b,fa',hv,hb,hfa',hk⟩:=zcR hk (zl _ _) hfa (fun _=>⟨0,0⟩)
   have hev:∀ ρ n (a:Act),zw E ρ n fr a.tmps->a.eval (.tmp t)=.bool b:=by
    intro ρ n a hf
    have h1:=(hf t v hv).1
    have h2:v.γ E ρ=.bool b:=by cases v <;> simp[V.γ]at hb ⊢ <;> exact hb
    simp[Act.eval,h1,h2]
   cases b with
   | true=>
    obtain⟨ae,fr1,h1,fa1,hk1,hfa1,r1⟩:=yF hY hm hcall x fr h fa' k hB.1 hfa' hk
    exact⟨ae,fr1,h1,fa1,hk1,hfa1,fun {DS} ρ w a QQ hs hf hN hd hQ=>wp_cond_true (hev ρ _ a hf) (r1 ρ w a QQ hs hf hN hd hQ)⟩
   | false=>
    obtain⟨ae,fr1,h1,fa1,hk1,hfa1,r1⟩:=yF hY hm hcall y fr h fa' k hB.2 hfa' hk
    exact⟨ae,fr1,h1,fa1,hk1,hfa1,fun {DS} ρ w a QQ hs hf hN hd hQ=>wp_cond_false (hev ρ _ a hf) (r1 ρ w a QQ hs hf hN hd hQ)⟩
  | _=>exact(jz hk).elim
 | .block i x,fr,h,fa,k,hB,hfa,hk=>by
  simp only[zH]at hB
  have hk:jp (yo Y N dr x) g fr h fa (fun e fr h fa=>je e (k .normal fr h fa) (k .ret fr h fa) (fun j=>bc (Nat.beq j i) (k .normal fr h fa) (k (.exit j) fr h fa)))=0:=hk
  obtain⟨ae,fr1,h1,fa1,hk1,hfa1,r1⟩:=yF hY hm hcall x fr h fa _ hB hfa hk
  cases ae with
  | normal=>exact⟨.normal,fr1,h1,fa1,hk1,hfa1,fun {DS} ρ w a QQ hs hf hN hd hQ=>wp_block (r1 ρ w a _ hs hf hN hd hQ)⟩
  | ret=>exact⟨.ret,fr1,h1,fa1,hk1,hfa1,fun {DS} ρ w a QQ hs hf hN hd hQ=>wp_block (r1 ρ w a _ hs hf hN hd hQ)⟩
  | exit j=>
   have hk2:bc (Nat.beq j i) (k .normal fr1 h1 fa1) (k (.exit j) fr1 h1 fa1)=0:=hk1
   clear hk1
   cases hj:Nat.beq j i with
   | true=>
    rw[hj]at hk2
    have hj:j=i:=by simpa using hj
    subst hj
    refine⟨.normal,fr1,h1,fa1,hk2,hfa1,fun {DS} ρ w a QQ hs hf hN hd hQ=>wp_block (r1 ρ w a _ hs hf hN hd fun a' w' hA=>?_)⟩
    show Exit.inBlock j _ (.exit j) a' w'
    simp only[Exit.inBlock,if_true]
    exact hQ a' w' hA
   | false=>
    rw[hj]at hk2
    have hj:¬ j=i:=by
     intro e;subst e;simp at hj
    refine⟨.exit j,fr1,h1,fa1,hk2,hfa1,fun {DS} ρ w a QQ hs hf hN hd hQ=>wp_block (r1 ρ w a _ hs hf hN hd fun a' w' hA=>?_)⟩
    show Exit.inBlock i _ (.exit j) a' w'
    simp only[Exit.inBlock,hj,if_false]
    exact hQ a' w' hA
 | .loop x,fr,h,fa,k,hB,hfa,hk=>by
  simp only[zH]at hB
  have key:∀ n fr h fa,FaOk E fa->zfA (jp (yo Y N dr x)) n g fr h fa k=0->∃ ae fr' h' fa',k ae fr' h' fa'=0/\FaOk E fa'/\∀ {DS:List Deferred} ρ w a QQ,Sat E ρ h w->zw E ρ h.n.toNat fr (a:Act).tmps->N<=a.tmps.size->a.defers=DS ->
    (∀ a' w',At E N DS ρ h w fr' h' a' w'->QQ (AE.exit' ae) a' w')->Code.rounds P x QQ n a w:=by
   intro n
   induction n with
   | zero=>intro fr h fa hfa hk;exact absurd hk (zl _ _)
   | succ n ih=>
    intro fr h fa hfa hk
    have hk:jp (yo Y N dr x) g fr h fa (fun e fr h fa=>je e (zfA (jp (yo Y N dr x)) n g fr h fa k) (k .ret fr h fa) (fun i=>k (.exit i) fr h fa))=0:=hk
    obtain⟨ae,fr1,h1,fa1,hk1,hfa1,r1⟩:=yF hY hm hcall x fr h fa _ hB hfa hk
    cases ae with
    | normal=>
     obtain⟨ae,fr2,h2,fa2,hk2,hfa2,r2⟩:=ih fr1 h1 fa1 hfa1 hk1
     refine⟨ae,fr2,h2,fa2,hk2,hfa2,fun {DS} ρ w a QQ hs hf hN hd hQ=>?_⟩
     rw[rounds_succ]
     refine r1 ρ w a _ hs hf hN hd ?_
     rintro a1 w1 ⟨ρ1,f1,n1,d1,s1,x1⟩
     exact r2 ρ1 w1 a1 QQ s1 f1 n1 d1 fun a' w' hA=>hQ a' w' (hA.trans x1)
    | ret=>exact⟨.ret,fr1,h1,fa1,hk1,hfa1,fun {DS} ρ w a QQ hs hf hN hd hQ=>(by rw[rounds_succ];exact r1 ρ w a _ hs hf hN hd hQ)⟩
    | exit i=>exact⟨.exit i,fr1,h1,fa1,hk1,hfa1,fun {DS} ρ w a QQ hs hf hN hd hQ=>(by rw[rounds_succ];exact r1 ρ w a _ hs hf hN hd hQ)⟩
  obtain⟨ae,fr2,h2,fa2,hk2,hfa2,r2⟩:=key g.fuel fr h fa hfa hk
  exact⟨ae,fr2,h2,fa2,hk2,hfa2,fun {DS} ρ w a QQ hs hf hN hd hQ=>wp_loop_rounds _ (r2 ρ w a QQ hs hf hN hd hQ)⟩
 | .scope x,fr,h,fa,k,hB,hfa,hk=>by
  simp only[zH]at hB
  obtain⟨ae,fr1,h1,fa1,hk1,hfa1,r1⟩:=yF hY hm hcall x fr h fa k hB hfa hk
  exact⟨ae,fr1,h1,fa1,hk1,hfa1,fun {DS} ρ w a QQ hs hf hN hd hQ=>wp_scope_straight (r1 ρ w a _ hs hf hN hd (by cases ae <;> exact hQ))⟩
 | .region id ops false,fr,h,fa,k,hB,hfa,hk=>by
  simp only[yo]at hk
  split at hk
  ·rename_i l hl
   obtain⟨fr2,h2',fa2,hk2,hfa2,ho⟩:=zdv hY hcall _ _ fr h fa hl hfa (show zaM l g fr h fa (fun fr h fa=>k .normal fr h fa)=0 from hk)
   exact⟨.normal,fr2,h2',fa2,hk2,hfa2,fun {DS} ρ w a QQ hs hf hN hd hQ=>wp_region_list (ho ρ w a QQ hs hf hN hd hQ)⟩
  ·exact(jz hk).elim
 | .region id ops true,fr,h,fa,k,hB,hfa,hk=>by
  simp only[zH]at hB
  simp only[yo]at hk
  split at hk
  ·rename_i bs ord hdr
   rw[hdr]at hB
   split at hk
   ·rename_i l hl
    exact zAN hY hm hcall hB hl hfa hk
   ·exact(jz hk).elim
  ·rename_i bs ord tl hdr
   rw[hdr]at hB
   split at hk
   ·rename_i l t hl ht
    exact zxX hY hm hcall hB hl ht hfa hk
   ·exact(jz hk).elim
  ·rename_i ks ord hdr
   rw[hdr]at hB
   split at hk
   ·rename_i l hl
    exact zxY hY hm hcall hB hl hfa hk
   ·exact(jz hk).elim
  ·rename_i ks ord tl hdr
   rw[hdr]at hB
   split at hk
   ·rename_i l t hl ht
    exact zvs hY hm hcall hB hl ht hfa hk
   ·exact(jz hk).elim
  ·rename_i ks ord q tl hdr
   rw[hdr]at hB
   split at hk
   ·rename_i l hl
    exact zAT hY hm hcall hB hl hfa hk
   ·exact(jz hk).elim
  ·rename_i ks ord qs cs q ins n0 hdr
   rw[hdr]at hB
   split at hk
   ·rename_i pre qs' cs' dq ins' t' h1 h2 h3 h4 h5 h6
    split at hk
    ·rename_i hdN
     exact zAf hY hm hcall hB h1 h2 h3 h4 (by simpa using hdN) h5 h6 hfa hk
    ·exact(jz hk).elim
   ·exact(jz hk).elim
  ·rename_i bs ord ch q tl hdr
   rw[hdr]at hB
   split at hk
   ·rename_i l c aq t hl hc haq ht
    exact flo_run hY hm hcall hB hl hc haq ht hfa hk
   ·exact(jz hk).elim
  ·exact(jz hk).elim
  ·rename_i n bs ord hdr
   rw[hdr]at hB
   split at hk
   ·rename_i hd l hhd hl
    exact mix_run hY hm hcall hB hhd hl hfa hk
   ·exact(jz hk).elim
  ·rename_i d tl hdr
   rw[hdr]at hB
   split at hk
   ·rename_i hd hhd
    split at hk
    ·rename_i o ho
     rw[zX,Array.getElem?_toList]at ho
     split at hk
     ·rename_i i r hi hr
      exact two_run hY hm hcall ho hB hhd hi hr hfa hk
     ·exact(jz hk).elim
    ·rename_i hne
     split at hk
     ·rename_i t ht
      rw[zzM]at ht
      refine zyK hY hm hcall hB hhd ht (fun e=>?_) hfa hk
      subst e
      rcases Nat.lt_or_ge d ops.size with h1 | h1
      ·exact(hne ops[d] rfl (by rw[zX];simp[h1])).elim
      ·exact h1
     ·exact(jz hk).elim
   ·exact(jz hk).elim
  ·exact(jz hk).elim
 | .rangeFunc f ps x y,fr,h,fa,k,hB,hfa,hk=>(jz hk).elim
 | .goto l,fr,h,fa,k,hB,hfa,hk=>(jz hk).elim
 | .refuse s,fr,h,fa,k,hB,hfa,hk=>(jz hk).elim
end Go.Ev
end
set_option linter.unusedSimpArgs false
set_option linter.unusedVariables false
noncomputable section
namespace Go.Ev
open Go
variable {E:Env} {P:Program} {N:Nat}
def resS (tmps:Array Value):ResultVar->Sem Value
 | .tmp t=>pure (tmps.getD t undef)
 | .cell a t=>do loadVar t (<- asAddr (tmps.getD a undef))
def ROk (P:Program) (r:ResultVar) (x:IR):Prop:=∀ (E:Env) (ρ:Rho) (fr:Fr) (h:H) (w:World) (tmps:Array Value) (v:V),Sat E ρ h w->zw E ρ h.n.toNat fr tmps->resV fr h x=some v->(resS tmps r).run P w=.ok (v.γ E ρ) w/\v.bd h.n.toNat
theorem zdw {α β:Type} {x:Option α} {f:α->Option β} {v:β} (h:oc x f none=some v):∃ a,x=some a/\f a=some v:=by
 cases x with
 | none=>cases h
 | some a=>exact⟨a,rfl,h⟩
theorem ze5 {β:Type} {x:Option V} {f:Ev.P->Nat->Option β} {v:β} (h:zak x f none=some v):∃ id off,x=some (.ptr id off)/\f id off=some v:=by
 unfold zak at h
 split at h
 ·exact⟨_,_,rfl,h⟩
 ·cases h
theorem zvH {ρ:Rho} {h:H} {w:World} (hs:Sat E ρ h w) {id:Ev.P} {o:O} (ho:h.t.get id=some o) {off:Nat} {v:V} (hc:zaO o off=some v) :
  ∃ cs t,w.heap[(ρ id).b]? = some (.cells cs t (0,0))/\cs[off]? = some (v.γ E ρ)/\v.bd h.n.toNat:=by
 obtain⟨cs,tt,hb,hcell⟩:=O.block (hs.obj id o ho) (hs.bd id o ho).2 (zbR hc)
 obtain⟨h1,h2⟩:=hcell off v hc
 exact⟨cs,tt,hb,h1,h2⟩
theorem ziS:∀ (l:List V) (i:Nat) (fr:Fr) (k:Fr->Nat),yC initN initC l i fr k=0->∃ fr',k fr'=0/\∀ q v,fr'.get q=some v->fr.get q=some v\/∃ j,q=zp (i+j)/\l[j]? = some v
 | [],i,fr,k,hk=>⟨fr,hk,fun q v h=>.inl h⟩
 | x::r,i,fr,k,hk=>by
  have hk:zb7 (zp i) fr x (fun fr=>yC initN initC r (Nat.succ i) fr k)=0:=hk
  obtain⟨fr1,hk,g1,g2⟩:=zbH hk
  obtain⟨fr',h1,h2⟩:=ziS r (i+1) fr1 k hk
  refine⟨fr',h1,fun q v hv=>?_⟩
  rcases h2 q v hv with h3 | ⟨j,h3,h4⟩
  ·by_cases hq:q=zp i
   ·rw[hq,g1]at h3
    exact .inr ⟨0,hq,by simpa using h3⟩
   ·rw[g2 q hq]at h3
    exact .inl h3
  ·exact .inr ⟨j+1,by rw[h3];congr 1;omega,by simpa using h4⟩
theorem jH {l:List V} {k:Fr->Nat} (hk:zbp l k=0):∃ fr,k fr=0/\∀ t v,fr.get (zp t)=some v->l[t]? = some v:=by
 obtain⟨fr,h1,h2⟩:=ziS l 0 .e k hk
 refine⟨fr,h1,fun t v hv=>?_⟩
 rcases h2 _ v hv with h3 | ⟨j,h3,h4⟩
 ·rw[Fr.get_e]at h3;simp at h3
 ·have:=zdA h3
  have:t=j:=by omega
  subst this;exact h4
theorem zzC {Y:Ty} (hY:TyOk P Y) {r:ResultVar} {rs:List ResultVar} {l:List IR} (h:zbd Y (r::rs)=some l):∃ x l',l=x::l'/\zbd Y rs=some l'/\ROk P r x:=by
 simp only[zbd]at h
 split at h
 rotate_left
 ·simp at h
 rename_i l' hl'
 split at h
 ·rename_i t
  simp at h;subst h
  refine⟨_,_,rfl,hl',fun E ρ fr h w tmps v hs hf hv=>?_⟩
  obtain⟨h1,h2⟩:=hf t v hv
  exact⟨by simp[resS,h1],h2⟩
 ·rename_i a t
  have one:(∃ d,P.underlying t=some d/\za4 d=false)->ROk P (.cell a t) (.c1 (zp a)):=by
   rintro ⟨d,hu,hd⟩ E ρ fr h w tmps v hs hf hv
   obtain⟨id,off,hp,hv⟩:=ze5 (show zak (fr.get (zp a)) (fun id off=>oc (ya h id) (fun o=>zaO o off) none) none=some v from hv)
   obtain⟨o,ho,hv⟩:=zdw hv
   rw[zJ]at ho
   obtain⟨h1,h2⟩:=hf a _ hp
   obtain⟨cs,tt,hb,hcell,hbd⟩:=zvH hs ho hv
   refine⟨?_,hbd⟩
   have:=zce (P:=P) (w:=w) hu hd (b:=(ρ id).b) (o:=off) (v:=v.γ E ρ) (by rw[zbl hb];exact hcell)
   simp[resS,h1,V.γ,asAddr,this]
  have many:zaR P t=true->zar P t=true->∀ m,m=yb P t->ROk P (.cell a t) (.cn m (zp a)):=by
   intro hty hg m hm E ρ fr h w tmps v hs hf hv
   obtain⟨id,off,hp,hv⟩:=ze5 (show zak (fr.get (zp a)) (fun id off=>oc (ya h id) (fun o=>(zcf o off m).map .agg) none) none=some v from hv)
   obtain⟨o,ho,hv⟩:=zdw hv
   rw[zJ]at ho
   obtain⟨l,hl,rfl⟩:=Option.map_eq_some_iff.1 hv
   obtain⟨h1,h2⟩:=hf a _ hp
   obtain⟨hlen,hbd,hcell⟩:=zbL hs ho hl
   refine⟨?_,hbd⟩
   obtain⟨g1,g2⟩:=jE (w:=w) hty
   have hl2:=run_loadCells_list (P:=P) w ⟨(ρ id).b,off,none⟩ (γL E ρ l) hcell
   rw[γL_length,hlen,hm]at hl2
   have:(loadVar t ⟨(ρ id).b,off,none⟩).run P w=.ok (.agg (γL E ρ l).toArray) w:=by
    unfold loadVar
    simp[g2,hg,g1,hl2]
   simp[resS,h1,V.γ,asAddr,this]
  split at h
  ·rename_i z k ht
   simp at h;subst h
   obtain⟨d,hu,hd,_⟩:=zbF hY.ti ht
   exact⟨_,_,rfl,hl',one ⟨d,hu,hd⟩⟩
  ·rename_i ht
   simp at h;subst h
   obtain⟨hu,_⟩:=zax hY.ti ht
   exact⟨_,_,rfl,hl',one ⟨_,hu,rfl⟩⟩
  ·rename_i fs z ht
   simp at h;subst h
   obtain⟨fl,hu,_,_,hty,hsz,hg⟩:=ze8 hY.ti ht
   exact⟨_,_,rfl,hl',many hty hg _ (by rw[yV];exact hsz)⟩
  ·rename_i n1 e1 s1 g1 z ht
   simp at h;subst h
   obtain⟨hu,_,_,_,hty,hsz,hg⟩:=zb5 hY.ti ht
   exact⟨_,_,rfl,hl',many hty hg _ (by rw[yV];exact hsz)⟩
  ·simp at h
theorem ziD {Y:Ty} (hY:TyOk P Y):∀ {rs:List ResultVar} {l:List IR},zbd Y rs=some l->∀ (E:Env) (ρ:Rho) (fr:Fr) (h:H) (w:World) (tmps:Array Value) (vs:List V),Sat E ρ h w->zw E ρ h.n.toNat fr tmps->zbv fr h l=some vs ->
  (rs.mapM (resS tmps)).run P w=.ok (γL E ρ vs) w/\bdL h.n.toNat vs
 | [],l,hl,E,ρ,fr,h,w,tmps,vs,hs,hf,hv=>by
  simp[zbd]at hl;subst hl
  have hv:some []=some vs:=hv
  cases hv
  exact⟨by simp[γL],trivial⟩
 | r::rs,l,hl,E,ρ,fr,h,w,tmps,vs,hs,hf,hv=>by
  obtain⟨x,l',rfl,hl',hx⟩:=zzC hY hl
  have hv:oc (resV fr h x) (fun a=>oc (zbv fr h l') (fun b=>some (a::b)) none) none=some vs:=hv
  obtain⟨a,ha,hv⟩:=zdw hv
  obtain⟨b,hb,hv⟩:=zdw hv
  cases hv
  obtain⟨e1,b1⟩:=hx E ρ fr h w tmps a hs hf ha
  obtain⟨e2,b2⟩:=ziD hY hl' E ρ fr h w tmps b hs hf hb
  refine⟨?_,b1,b2⟩
  rw[List.mapM_cons,Sem.run_bind,e1]
  simp only[Result.andThen_ok,Sem.run_bind,e2,Sem.run_pure,γL]
theorem js {Y:Ty} (hY:TyOk P Y) {fn:Func} {l:List IR} (hl:zbd Y fn.results.toList=some l) {ρ:Rho} {fr:Fr} {h:H} {w:World} {tmps:Array Value} {vs:List V} (hs:Sat E ρ h w) (hf:zw E ρ h.n.toNat fr tmps) (hv:zbv fr h l=some vs) :
  (results fn tmps).run P w=.ok (if h:(γL E ρ vs).toArray.size=1 then (γL E ρ vs).toArray[0] else .tuple (γL E ρ vs).toArray) w/\bdL h.n.toNat vs:=by
 obtain⟨h1,h2⟩:=ziD hY hl E ρ fr h w tmps vs hs hf hv
 refine⟨?_,h2⟩
 have e0:results fn tmps=(do
   let vs <- fn.results.mapM (resS tmps)
   pure (if h:vs.size=1 then vs[0] else .tuple vs)):=rfl
 rw[e0,Sem.run_bind,Array.mapM_eq_mapM_toList,Sem.run_map,h1]
 rfl
structure CxOk (E:Env) (P:Program) (Y:Ty) (C:Cx):Prop where
 ty:TyOk P Y
 mixed:P.follows .mixedOrders=true
 fn:∀ F i,C.fn F=some i->∃ (f:Func) (dr:Nat->Option Dr),P.funcs[F]? = some f/\yl P F/\cFn Y dr f=some i/\(∀ c,f.body=some c->zH dr c=true)
 hook:∀ F s,C.hook F=some s->zi E P (fun G l h fa k=>bc (Nat.beq G F) (s l h fa k) 1)
theorem zbz {Y:Ty} {C:Cx} (hC:CxOk E P Y C) (n:Nat) {inner:zy} (ih:zi E P inner):zi E P (zbb C n inner):=by
  intro F l h fa k hk hfa
  have hk:oc (C.hook F) (fun s=>s l h fa k) (oc (C.fn F) (fun f=>zi5 C inner F f l h fa k) (Nat.succ (Nat.add (Nat.mul F 100) 51)))=0:=hk
  cases hS:C.hook F with
  | some s=>
   rw[hS]at hk
   exact hC.hook F s hS F l h fa k (by simp[yG];exact hk) hfa
  | none=>
   rw[hS]at hk
   cases hF:C.fn F with
   | none=>rw[hF]at hk;exact absurd (show Nat.succ _=0 from hk) (by simp)
   | some i=>
    rw[hF]at hk
    have hk:zi5 C inner F i l h fa k=0:=hk
    obtain⟨f,dr,hfn,hca,hcf,hdr⟩:=hC.fn F i hF
    refine⟨hca,?_⟩
    unfold cFn at hcf
    split at hcf
    rotate_left
    ·simp at hcf
    rename_i c rs hc hrs
    simp at hcf;subst hcf
    obtain⟨fr,hk,hfr⟩:=jH hk
    obtain⟨ae,fr1,h1,fa1,hk1,hfa1,hrun⟩:=yF hC.ty hC.mixed (g:=⟨inner,F,C.fuel⟩) ih c fr h fa _ (hdr c hc) hfa hk
    have fin:(AE.exit' ae=.normal\/AE.exit' ae=.ret)->za0 rs fr1 h1 (fun v=>k v h1 fa1) (Nat.succ (Nat.add (Nat.mul F 100) 49))=0->∃ v h' fa',k v h' fa'=0/\FaOk E fa' /\
      ∀ ρ w,bdL h.n.toNat l->Sat E ρ h w->Calls P F (γL E ρ l).toArray w fun e w'=>∃ ρ',e=.returned (v.γ E ρ')/\Sat E ρ' h' w'/\Ext ρ h w ρ' h' w'/\v.bd h'.n.toNat:=by
     intro hae hr
     obtain⟨vs,hvs,hr⟩:=zA (show oc (zbv fr1 h1 rs) _ _=0 from hr) (by simp)
     have hv:∃ v,k v h1 fa1=0/\(∀ n,bdL n vs->v.bd n)/\∀ ρ,(if h:(γL E ρ vs).toArray.size=1 then (γL E ρ vs).toArray[0] else .tuple (γL E ρ vs).toArray)=v.γ E ρ:=by
      match vs,hr with
      | [],hr=>exact⟨.tup [],hr,fun n hn=>hn,fun ρ=>rfl⟩
      | [x],hr=>exact⟨x,hr,fun n hn=>hn.1,fun ρ=>by simp[γL]⟩
      | x::y::r,hr=>exact⟨.tup (x::y::r),hr,fun n hn=>hn,fun ρ=>by simp[γL,V.γ]⟩
     obtain⟨v,hkv,hvb,hvγ⟩:=hv
     refine⟨v,h1,fa1,hkv,hfa1,fun ρ w hb hs=>?_⟩
     refine calls_of_wp hfn hc ?_
     ·have hf:zw E ρ h.n.toNat fr ((γL E ρ l).toArray ++ Array.replicate (f.ntmps - (γL E ρ l).toArray.size) undef):=by
       intro t v hv
       have h2:=hfr t v hv
       have ht:t<l.length:=(List.getElem?_eq_some_iff.1 h2).1
       refine⟨?_,(yg _ l).1 hb v (List.mem_of_getElem? h2)⟩
       rw[Array.getElem?_append_left (by simp[γL_length];exact ht)]
       simp[γL_get,h2]
      refine hrun ρ w { tmps:=(γL E ρ l).toArray ++ Array.replicate (f.ntmps - (γL E ρ l).toArray.size) undef,defers:=[] } _ hs hf (by simp[γL_length];omega) rfl ?_
      rintro a1 w1 ⟨ρ1,f1,n1,d1,s1,x1⟩
      obtain⟨e1,b1⟩:=js hC.ty hrs s1 f1 hvs
      rw[hvγ]at e1
      have:bodyPost P f (fun e w'=>∃ ρ',e=.returned (v.γ E ρ')/\Sat E ρ' h1 w'/\Ext ρ h w ρ' h1 w'/\v.bd h1.n.toNat) .ret a1 w1:=⟨d1,_,e1,ρ1,rfl,s1,x1,hvb _ b1⟩
      rcases hae with h | h <;> rw[h] <;> exact this
    cases ae with
    | normal=>exact fin (.inl rfl) hk1
    | ret=>exact fin (.inr rfl) hk1
    | exit i=>exact absurd (show Nat.succ _=0 from hk1) (by simp)
theorem jI {Y:Ty} {C:Cx} (hC:CxOk E P Y C):∀ n,zi E P (zcn C n):=by
 intro n
 induction n with
 | zero=>intro F l h fa k hk;exact absurd (show Nat.succ _=0 from hk) (by simp)
 | succ n ih=>exact zbz hC n ih
end Go.Ev
end
set_option linter.unusedSimpArgs false
set_option linter.unusedVariables false
noncomputable section
namespace Go.Ev
open Go
variable {E:Env} {P:Program}
theorem zcB (c c':Option SB) (b b':Bool):z5 E (andO c c') (match b,b' with | true,true=>true | _,_=>false)=(z5 E c b && z5 E c' b'):=by
 cases c <;> cases c' <;> cases b <;> cases b' <;> simp[z5,andO,SB.den]
theorem zvC (c c':Option SB) (b b':Bool):z5 E (andO c c') (b && b')=(z5 E c b && z5 E c' b'):=by
 cases c <;> cases c' <;> cases b <;> cases b' <;> simp[z5,andO,SB.den]
theorem zud {e:EK} {es:List EK} {xs ys:List V} {c:Option SB} {b:Bool} (h:eqL (e::es) xs ys=some (c,b)) :
  ∃ x xs' y ys' c1 b1 c2 b2,xs=x::xs'/\ys=y::ys'/\eqC e x y=some (c1,b1)/\eqL es xs' ys'=some (c2,b2)/\z5 E c b=(z5 E c1 b1 && z5 E c2 b2):=by
 cases xs with
 | nil=>simp[eqL]at h
 | cons x xs=>
  cases ys with
  | nil=>simp[eqL]at h
  | cons y ys=>
   simp only[eqL]at h
   split at h
   ·rename_i c1 b1 c2 b2 h1 h2
    simp only[Option.some.injEq,Prod.mk.injEq]at h
    obtain⟨rfl,rfl⟩:=h
    exact⟨x,xs,y,ys,c1,b1,c2,b2,rfl,rfl,h1,h2,zcB _ _ _ _⟩
   ·simp at h
theorem zeS {xs ys:List V} {c:Option SB} {b:Bool} (h:eqL [] xs ys=some (c,b)):xs=[]/\ys=[]/\z5 E c b=true:=by
 cases xs <;> cases ys <;> simp[eqL]at h
 obtain⟨rfl,rfl⟩:=h
 exact⟨rfl,rfl,rfl⟩
theorem zea:∀ (l m:List EK) {xs ys:List V} {c:Option SB} {b:Bool},eqL (l ++ m) xs ys=some (c,b) ->
  ∃ xs1 xs2 ys1 ys2 c1 b1 c2 b2,xs=xs1 ++ xs2/\ys=ys1 ++ ys2/\xs1.length=l.length/\ys1.length=l.length/\eqL l xs1 ys1=some (c1,b1)/\eqL m xs2 ys2=some (c2,b2)/\z5 E c b=(z5 E c1 b1 && z5 E c2 b2)
 | [],m,xs,ys,c,b,h=>⟨[],xs,[],ys,none,true,c,b,rfl,rfl,rfl,rfl,rfl,h,by simp[z5]⟩
 | e::l,m,xs,ys,c,b,h=>by
  rw[List.cons_append]at h
  cases xs with
  | nil=>simp[eqL]at h
  | cons x xs=>
   cases ys with
   | nil=>simp[eqL]at h
   | cons y ys=>
    simp only[eqL]at h
    split at h
    ·rename_i c1 b1 c2 b2 h1 h2
     simp only[Option.some.injEq,Prod.mk.injEq]at h
     obtain⟨rfl,rfl⟩:=h
     obtain⟨xs1,xs2,ys1,ys2,d1,e1,d2,e2,rfl,rfl,q1,q2,q3,q4,q5⟩:=zea l m h2
     refine⟨x::xs1,xs2,y::ys1,ys2,andO c1 d1,b1 && e1,d2,e2,rfl,rfl,by simp[q1],by simp[q2],?_,q4,?_⟩
     ·simp only[eqL,h1,q3];cases b1 <;> cases e1 <;> rfl
     ·refine(zcB _ _ _ _).trans ?_
      rw[zvC,q5,Bool.and_assoc]
    ·simp at h
theorem zgg {α:Type} (post:List α):∀ xs:List α,zde xs.length (xs ++ post)=some xs
 | []=>by cases post <;> rfl
 | x::xs=>by
  show oc (zde xs.length (xs ++ post)) (fun l=>some (x::l)) none=_
  rw[zgg post xs];rfl
def zc8 (P:Program) (t:Nat) (xs:List V):V:=if zar P t then .agg xs else xs.headD (.b true)
theorem zcv {t:Nat} {pre xs post:List V} {off:Nat} (h1:pre.length=off) (h2:xs.length=yb P t) (h3:zar P t=false->xs.length=1):part (pre ++ (xs ++ post)) off (yb P t) (zar P t)=some (zc8 P t xs):=by
 unfold part zc8
 cases hg:zar P t with
 | true=>
  have hd:zeu off (pre ++ (xs ++ post))=xs ++ post:=by rw[zdH,<- h1,List.drop_left]
  rw[hd,<- h2]
  simp only[if_true]
  rw[zgg];rfl
 | false=>
  simp only[Bool.false_eq_true,if_false]
  match xs,h3 hg with
  | [x],_=>rw[zX,List.getElem?_append_right (by omega)];simp[h1]
theorem zdK {t:Nat} {d:TypeDesc} (h:P.underlying t=some d):zar P t=za4 d:=by simp[zar,h]
theorem eqC_int {k:IntKind} {x y:V} {c:Option SB} {b:Bool} (h:eqC (.int k) x y=some (c,b)) (ρ:Rho):∃ p q,x.γ E ρ=.int k p/\y.γ E ρ=.int k q/\z5 E c b=(p == q):=by
 simp only[eqC]at h
 split at h
 ·rename_i k1 a k2 b'
  split at h
  ·rename_i hk
   simp only[Bool.and_eq_true]at hk
   obtain rfl:=yn hk.1
   obtain rfl:=yn hk.2
   simp at h
   obtain⟨rfl,rfl⟩:=h
   refine⟨a,b',rfl,rfl,?_⟩
   simp[z5,jb]
   rfl
  ·simp at h
 ·split at h
  ·rename_i k1 a k2 b' h1 h2
   split at h
   ·rename_i hk
    simp only[Bool.and_eq_true]at hk
    obtain rfl:=yn hk.1
    obtain rfl:=yn hk.2
    simp at h
    obtain⟨rfl,rfl⟩:=h
    refine⟨_,_,zcJ h1 ρ,zcJ h2 ρ,?_⟩
    simp[z5,SB.den,zbs,jb]
    rfl
   ·simp at h
  ·simp at h
mutual
theorem zfP:∀ (d:Nat) (t:Nat) (l:List EK),eqOf P d t=some l->∀ (D:Nat) (ρ:Rho) (w:World) (xs ys:List V) (c:Option SB) (b:Bool),d<=D->eqL l xs ys=some (c,b) ->
  (Op.equalIn D t ((zc8 P t xs).γ E ρ) ((zc8 P t ys).γ E ρ)).run P w=.ok (z5 E c b) w/\(zar P t=false->xs.length=1/\ys.length=1)
 | 0,t,l,h,_,_,_,_,_,_,_,_,_=>by simp[eqOf]at h
 | d+1,t,l,h,D,ρ,w,xs,ys,c,b,hD,he=>by
  obtain⟨D,rfl⟩:∃ D',D=D'+1:=⟨D - 1,by omega⟩
  simp only[eqOf]at h
  split at h
  ·rename_i hu
   simp at h;subst h
   obtain⟨x,xs',y,ys',c1,b1,c2,b2,rfl,rfl,h1,h2,h3⟩:=zud (E:=E) he
   obtain⟨rfl,rfl,h4⟩:=zeS (E:=E) h2
   obtain⟨p,q,e1,e2,e3⟩:=zug (E:=E) h1 ρ
   have hg:zar P t=false:=by rw[zdK hu];rfl
   refine⟨?_,fun _=>⟨rfl,rfl⟩⟩
   simp only[zc8,hg,Bool.false_eq_true,if_false,List.headD_cons,e1,e2]
   rw[run_equalIn_bool' w D t p q hu,h3,e3,h4,Bool.and_true]
  ·rename_i k hu
   simp at h;subst h
   obtain⟨x,xs',y,ys',c1,b1,c2,b2,rfl,rfl,h1,h2,h3⟩:=zud (E:=E) he
   obtain⟨rfl,rfl,h4⟩:=zeS (E:=E) h2
   obtain⟨p,q,e1,e2,e3⟩:=eqC_int (E:=E) h1 ρ
   have hg:zar P t=false:=by rw[zdK hu];rfl
   refine⟨?_,fun _=>⟨rfl,rfl⟩⟩
   simp only[zc8,hg,Bool.false_eq_true,if_false,List.headD_cons,e1,e2]
   rw[run_equalIn_int w D t k k p q hu,h3,e3,h4,Bool.and_true]
  ·rename_i fl hu
   split at h
   ·simp at h
   ·rename_i hst
    have hg:zar P t=true:=by rw[zdK hu];rfl
    refine⟨?_,fun hf=>by rw[hg]at hf;simp at hf⟩
    have hfl:P.fieldsOf t=fl:=by simp[Program.fieldsOf,hu]
    simp only[zc8,hg,if_true,V.γ]
    rw[run_equalIn_struct w D t _ _ (by rw[hfl];exact hu) (by simpa using hst),hfl]
    exact zuf d 0 fl.toList l h D ρ w [] [] xs ys c b (by omega) rfl rfl he
  ·rename_i n e hu
   split at h
   ·rename_i l1 h1
    split at h
    ·rename_i hc
     simp only[Bool.and_eq_true,Nat.beq_eq,yV]at hc
     simp at h;subst h
     have hg:zar P t=true:=by rw[zdK hu];rfl
     refine⟨?_,fun hf=>by rw[hg]at hf;simp at hf⟩
     obtain⟨i,hi,his⟩:=zcA hc.2
     have hco:P.cellsOf e=yb P e:=by simp[Program.cellsOf,hi,his]
     simp only[zc8,hg,if_true,V.γ]
     rw[run_equalIn_array w D _ _ hu hi,List.range_eq_range',hco]
     have key:∀ (n:Nat) (pre1 pre2 xs ys:List V) (j:Nat) (c:Option SB) (b:Bool) (w:World),pre1.length=j*yb P e->pre2.length=j*yb P e->eqL (rep n l1) xs ys=some (c,b) ->
       (Op.eqItems D e (yb P e) (γL E ρ (pre1 ++ xs)).toArray (γL E ρ (pre2 ++ ys)).toArray (List.range' j n)).run P w=.ok (z5 E c b) w:=by
      intro n
      induction n with
      | zero=>
       intro pre1 pre2 xs ys j c b w _ _ he
       obtain⟨rfl,rfl,h4⟩:=zeS (E:=E) (show eqL [] xs ys=_ from he)
       rw[h4];simp[Op.eqItems,List.range']
      | succ n ih=>
       intro pre1 pre2 xs ys j c b w hp1 hp2 he
       obtain⟨xs1,xs2,ys1,ys2,c1,b1,c2,b2,rfl,rfl,q1,q2,q3,q4,q5⟩:=zea (E:=E) l1 (rep n l1) (show eqL (l1 ++ rep n l1) xs ys=_ from he)
       obtain⟨r1,r2⟩:=zfP d e l1 h1 D ρ w xs1 ys1 c1 b1 (by omega) q3
       obtain⟨p1,_⟩:=zbw (E:=E) (w:=w) hc.2 (ρ:=ρ) (zcv (pre:=pre1) (xs:=xs1) (post:=xs2) hp1 (by omega) (fun hf=>(r2 hf).1))
       obtain⟨p2,_⟩:=zbw (E:=E) (w:=w) hc.2 (ρ:=ρ) (zcv (pre:=pre2) (xs:=ys1) (post:=ys2) hp2 (by omega) (fun hf=>(r2 hf).2))
       rw[List.range'_succ]
       simp only[Op.eqItems,Sem.run_bind,p1,p2,r1,Result.andThen_ok]
       cases hb:z5 E c1 b1 with
       | false=>simp[q5,hb]
       | true=>
        have:=ih (pre1 ++ xs1) (pre2 ++ ys1) xs2 ys2 (j+1) c2 b2 w (by rw[List.length_append,hp1,Nat.add_mul];omega) (by rw[List.length_append,hp2,Nat.add_mul];omega) q4
        simp only[List.append_assoc]at this
        simp[q5,hb,this]
     exact key n [] [] xs ys 0 c b w (by simp) (by simp) he
    ·simp at h
   ·simp at h
  ·simp at h
theorem zuf:∀ (d:Nat) (off:Nat) (fl:List Field) (l:List EK),eqFs P d off fl=some l->∀ (D:Nat) (ρ:Rho) (w:World) (pre1 pre2 xs ys:List V) (c:Option SB) (b:Bool),d<=D->pre1.length=off->pre2.length=off->eqL l xs ys=some (c,b) ->
  (Op.eqFields D (γL E ρ (pre1 ++ xs)).toArray (γL E ρ (pre2 ++ ys)).toArray fl).run P w=.ok (z5 E c b) w
 | 0,off,fl,l,h,_,_,_,_,_,_,_,_,_,_,_,_,_=>by simp[eqFs]at h
 | d+1,off,[],l,h,D,ρ,w,pre1,pre2,xs,ys,c,b,hD,hp1,hp2,he=>by
  simp[eqFs]at h;subst h
  obtain⟨rfl,rfl,h4⟩:=zeS (E:=E) he
  rw[h4];simp[Op.eqFields]
 | d+1,off,f::r,l,h,D,ρ,w,pre1,pre2,xs,ys,c,b,hD,hp1,hp2,he=>by
  simp only[eqFs]at h
  split at h
  ·rename_i hf
   simp only[Bool.and_eq_true,decide_eq_true_eq,Nat.beq_eq]at hf
   obtain⟨hname,hoff⟩:=hf
   split at h
   ·rename_i l1 h1
    split at h
    ·rename_i hc
     simp only[Bool.and_eq_true,Nat.beq_eq,yV]at hc
     split at h
     ·rename_i m hm
      simp at h;subst h
      obtain⟨xs1,xs2,ys1,ys2,c1,b1,c2,b2,rfl,rfl,q1,q2,q3,q4,q5⟩:=zea (E:=E) l1 m he
      obtain⟨r1,r2⟩:=zfP d f.type l1 h1 D ρ w xs1 ys1 c1 b1 (by omega) q3
      obtain⟨p1,_⟩:=zbw (E:=E) (w:=w) hc.2 (ρ:=ρ) (zcv (pre:=pre1) (xs:=xs1) (post:=xs2) (off:=f.offset) (by omega) (by omega) (fun hf=>(r2 hf).1))
      obtain⟨p2,_⟩:=zbw (E:=E) (w:=w) hc.2 (ρ:=ρ) (zcv (pre:=pre2) (xs:=ys1) (post:=ys2) (off:=f.offset) (by omega) (by omega) (fun hf=>(r2 hf).2))
      have ih:=zuf d (off+l1.length) r m (by rw[<- yV];exact hm) D ρ w (pre1 ++ xs1) (pre2 ++ ys1) xs2 ys2 c2 b2 (by omega) (by rw[List.length_append];omega) (by rw[List.length_append];omega) q4
      simp only[List.append_assoc]at ih
      simp only[Op.eqFields,hname,ne_eq,not_false_eq_true,if_true,Sem.run_bind,p1,p2,r1,Result.andThen_ok]
      cases hb:z5 E c1 b1 with
      | false=>simp[q5,hb]
      | true=>simp[q5,hb,ih]
     ·simp at h
    ·simp at h
   ·simp at h
  ·simp at h
end
theorem zcj:EqSpec P (zr P):=by
 intro t l h
 have h:eqT P t=some l:=h
 unfold eqT at h
 split at h
 ·simp at h
 ·rename_i hc
  simp only[Bool.or_eq_true,Bool.not_eq_true',not_or,Bool.not_eq_true,Bool.not_eq_false]at hc
  refine⟨hc.1,fun E ρ w xs ys c b he=>?_⟩
  have h1:=(zfP (E:=E) 40 t l h 10000 ρ w xs ys c b (by decide) he).1
  simp only[zc8,hc.2,if_true,V.γ]at h1
  exact h1
theorem zdB {kd:IntKind} {v:V} (h:ja (.one kd) v=true):∃ n,v=.i kd n:=by
 cases v <;> simp only[ja]at h <;> first | (simp at h;done) | skip
 exact⟨_,by rw[yn h]⟩
theorem zes {kd:IntKind} (ρ:Rho) {n:Int}:∀ (l:List (V × V)) (es:List MapEntry) (i:Nat) (r:Option (Nat × V)),yt (.one kd) (.i kd n) l i=some r->es.map (fun e=>(e.key,e.val))=l.map (fun p=>(p.1.γ E ρ,p.2.γ E ρ)) ->
  Instr.findNow (.int kd) (.int kd n) es i=some (r.map (fun q=>(q.1,q.2.γ E ρ)))
 | [],es,i,r,h,he=>by
  have h:some none=some r:=h
  cases h
  obtain rfl:es=[]:=by simpa using he
  rfl
 | (a,b)::l,es,i,r,h,he=>by
  cases es with
  | nil=>simp at he
  | cons e es=>
   simp only[List.map_cons,List.cons.injEq,Prod.mk.injEq]at he
   obtain⟨⟨h1,h2⟩,h3⟩:=he
   have h:bc (ja (.one kd) a) (bc (V.beq (.i kd n) a) (zbK (yt (.one kd) (.i kd n) l (Nat.succ i)) (some (some (i,b)))) (yt (.one kd) (.i kd n) l (Nat.succ i))) none=some r:=h
   cases hk:ja (.one kd) a with
   | false=>rw[hk]at h;cases h
   | true=>
    rw[hk]at h
    have h:bc (V.beq (.i kd n) a) (zbK (yt (.one kd) (.i kd n) l (Nat.succ i)) (some (some (i,b)))) (yt (.one kd) (.i kd n) l (Nat.succ i))=some r:=h
    obtain⟨m,rfl⟩:=zdB hk
    have h1:e.key=.int kd m:=h1
    have hb:V.beq (.i kd n) (.i kd m)=decide (n=m):=by
     have:kEq kd kd=true:=by cases kd <;> rfl
     simp only[V.beq,this,jb,Bool.true_and]
    rw[hb]at h
    by_cases hnm:n=m
    ·rw[decide_eq_true hnm]at h
     obtain⟨_,h⟩:=zcw h
     cases h
     subst hnm
     simp[Instr.findNow,Instr.sameNow,h1,h2]
    ·rw[decide_eq_false hnm]at h
     have:=zes ρ l es (i+1) r h h3
     simp[Instr.findNow,Instr.sameNow,h1,show (n == m)=false by simpa using hnm,this]
theorem ztZ {k:TypeId} {kd:IntKind} (hu:P.underlying k=some (.int kd)):KeySpec P k (.one kd) where
 check:=fun E ρ w em v hv=>by
  obtain⟨n,rfl⟩:=zdB hv
  exact MapKept.run_checkKey hu (k:=.int kd n) rfl em 9999
 find:=fun E ρ w v l r es hv hf he=>by
  obtain⟨n,rfl⟩:=zdB hv
  exact MapKept.run_findKey hu (zes ρ l es 0 r hf he)
 checkS:=fun E ρ w em v hv=>by cases v <;> simp[zlY]at hv
 findS:=fun E ρ w v l es hv=>by cases v <;> simp[zlY]at hv
 stays:=fun E ρ w v hv=>by
  obtain⟨n,rfl⟩:=zdB hv
  exact MapKept.run_keyThatStays (d:=.int kd) (k:=.int kd n) rfl
theorem zwR:∀ {l:List EK} {a b:List V},y7 l a=true->y7 l b=true->eqL l a b=some (none,yZ a b)
 | [],a,b,ha,hb=>by
  cases a <;> cases b <;> simp[y7]at ha hb
  rfl
 | .bool::l,a,b,ha,hb=>by cases a <;> simp[y7]at ha
 | .int k::l,a,b,ha,hb=>by
  cases a with
  | nil=>simp[y7]at ha
  | cons x a=>
   cases b with
   | nil=>simp[y7]at hb
   | cons y b=>
    cases x <;> simp only[y7]at ha <;> first | (simp at ha;done) | skip
    cases y <;> simp only[y7]at hb <;> first | (simp at hb;done) | skip
    simp only[Bool.and_eq_true]at ha hb
    have h1:=yn ha.1
    have h2:=yn hb.1
    subst h1;subst h2
    have hk:kEq k k=true:=by cases k <;> rfl
    simp only[eqL,eqC,hk,Bool.and_self,if_true,zwR ha.2 hb.2,yZ,V.beq,Bool.true_and,andO]
    rename_i n m
    cases iEq n m <;> cases yZ a b <;> rfl
theorem zcU:∀ {l:List EK} {a:List V},y7 l a=true->zah l a=true
 | [],a,h=>by cases a <;> simp[y7]at h;rfl
 | .bool::l,a,h=>by cases a <;> simp[y7]at h
 | .int k::l,a,h=>by
  cases a with
  | nil=>simp[y7]at h
  | cons y a=>
   cases y <;> simp only[y7]at h <;> first | (simp at h;done) | skip
   simp only[Bool.and_eq_true]at h
   simp only[zah,h.1,zcU h.2,Bool.and_self]
theorem zct (ρ:Rho):∀ {l:List EK} {a:List V},zah l a=true->∀ x∈γL E ρ a,∃ k n,x=.int k n
 | [],a,h,x,hx=>by
  cases a <;> simp[zah]at h
  cases hx
 | .bool::l,a,h,x,hx=>by cases a <;> simp[zah]at h
 | .int k::l,a,h,x,hx=>by
  cases a with
  | nil=>cases hx
  | cons y a=>
   cases y <;> simp only[zah]at h <;> first | (simp at h;done) | skip
   all_goals
    simp only[Bool.and_eq_true]at h
    rcases List.mem_cons.1 hx with rfl | hx
    ·exact⟨_,_,rfl⟩
    ·exact zct ρ h.2 x hx
theorem zxS (ρ:Rho) {l:List EK} {a:List V} (h:y7 l a=true):∀ x∈γL E ρ a,∃ k n,x=.int k n:=zct ρ (zcU h)
theorem zjh:∀ {l:List EK} {a:List V},zah l a=true->a.length=l.length
 | [],a,h=>by cases a <;> simp[zah]at h;rfl
 | .bool::l,a,h=>by cases a <;> simp[zah]at h
 | .int k::l,a,h=>by
  cases a with
  | nil=>simp[zah]at h
  | cons y a=>
   cases y <;> simp only[zah]at h <;> first | (simp at h;done) | skip
   all_goals
    simp only[Bool.and_eq_true]at h
    simp[zjh h.2]
theorem exE_ok {e:SE} {n:Int} (h:exE e n=true):e.den E≠n:=by
 unfold exE at h
 split at h
 ·rename_i x a
  rw[zbq]at h
  have h:=of_decide_eq_true h
  show (if SE.den E x<a then a else SE.den E x)≠n
  by_cases hc:SE.den E x<a
  ·rw[if_pos hc];omega
  ·rw[if_neg hc];omega
 ·rename_i x a
  rw[zbq]at h
  have h:=of_decide_eq_true h
  show (if a<SE.den E x then a else SE.den E x)≠n
  by_cases hc:a<SE.den E x
  ·rw[if_pos hc];omega
  ·rw[if_neg hc];omega
 ·cases h
theorem zmb:∀ {l:List EK} {a b:List V},zah l a=true->y7 l b=true->∃ c t,eqL l a b=some (c,t)/\(exL a b=true->z5 E c t=false)
 | [],a,b,ha,hb=>by
  cases a <;> simp[zah]at ha
  cases b <;> simp[y7]at hb
  exact⟨none,true,rfl,fun h=>by cases h⟩
 | .bool::l,a,b,ha,hb=>by cases a <;> simp[zah]at ha
 | .int k::l,a,b,ha,hb=>by
  cases b with
  | nil=>simp[y7]at hb
  | cons y b=>
   cases y <;> simp only[y7]at hb <;> first | (simp at hb;done) | skip
   rename_i k2 m
   simp only[Bool.and_eq_true]at hb
   cases a with
   | nil=>simp[zah]at ha
   | cons x a=>
    have hk:kEq k k=true:=by cases k <;> rfl
    cases x <;> simp only[zah]at ha <;> first | (simp at ha;done) | skip
    ·rename_i k1 n
     simp only[Bool.and_eq_true]at ha
     obtain rfl:=yn ha.1
     obtain rfl:=yn hb.1
     obtain⟨c,t,h1,h2⟩:=zmb ha.2 hb.2
     refine⟨_,_,(by simp only[eqL,eqC,hk,Bool.and_self,if_true,h1];rfl),fun hx=>?_⟩
     refine(zcB _ _ _ _).trans ?_
     have hx:bc (bc (iEq n m) false true) true (exL a b)=true:=hx
     cases hnm:iEq n m with
     | false=>simp[z5]
     | true=>
      rw[hnm]at hx
      rw[h2 hx,Bool.and_false]
    ·rename_i k1 e
     simp only[Bool.and_eq_true]at ha
     obtain rfl:=yn ha.1
     obtain rfl:=yn hb.1
     obtain⟨c,t,h1,h2⟩:=zmb ha.2 hb.2
     refine⟨_,_,(by simp only[eqL,eqC,toE,hk,Bool.and_self,if_true,h1];rfl),fun hx=>?_⟩
     refine(zcB _ _ _ _).trans ?_
     have hx:bc (exE e m) true (exL a b)=true:=hx
     cases hem:exE e m with
     | true=>
      have:=exE_ok (E:=E) hem
      simp[z5,SB.den,zbs,jb,SE.den,this]
     | false=>
      rw[hem]at hx
      rw[h2 hx,Bool.and_false]
theorem zdC {l:List EK} {v:V} (h:ja (.agg l) v=true):∃ a,v=.agg a/\y7 l a=true:=by
 cases v <;> simp only[ja]at h <;> first | (simp at h;done) | exact⟨_,rfl,h⟩
theorem zet {k:TypeId} {l:List EK} (heq:∀ (E:Env) (ρ:Rho) (w:World) xs ys c b,eqL l xs ys=some (c,b)->(Op.equal k (.agg (γL E ρ xs).toArray) (.agg (γL E ρ ys).toArray)).run P w=.ok (z5 E c b) w) (ρ:Rho) (w:World) {a:List V} (ha:y7 l a=true) :
  ∀ (ps:List (V × V)) (es:List MapEntry) (i:Nat) (r:Option (Nat × V)),yt (.agg l) (.agg a) ps i=some r->es.map (fun e=>(e.key,e.val))=ps.map (fun p=>(p.1.γ E ρ,p.2.γ E ρ)) ->
   (Instr.findAsking k (.agg (γL E ρ a).toArray) es i).run P w=.ok (r.map (fun q=>(q.1,q.2.γ E ρ))) w
 | [],es,i,r,h,he=>by
  have h:some none=some r:=h
  cases h
  obtain rfl:es=[]:=by simpa using he
  simp[Instr.findAsking]
 | (x,b)::ps,es,i,r,h,he=>by
  cases es with
  | nil=>simp at he
  | cons e es=>
   simp only[List.map_cons,List.cons.injEq,Prod.mk.injEq]at he
   obtain⟨⟨h1,h2⟩,h3⟩:=he
   have h:bc (ja (.agg l) x) (bc (V.beq (.agg a) x) (zbK (yt (.agg l) (.agg a) ps (Nat.succ i)) (some (some (i,b)))) (yt (.agg l) (.agg a) ps (Nat.succ i))) none=some r:=h
   cases hk:ja (.agg l) x with
   | false=>rw[hk]at h;cases h
   | true=>
    rw[hk]at h
    have h:bc (V.beq (.agg a) x) (zbK (yt (.agg l) (.agg a) ps (Nat.succ i)) (some (some (i,b)))) (yt (.agg l) (.agg a) ps (Nat.succ i))=some r:=h
    obtain⟨y,rfl,hy⟩:=zdC hk
    have h1:e.key=.agg (γL E ρ y).toArray:=h1
    have hrun:=heq E ρ w a y none (yZ a y) (zwR ha hy)
    have hcb:z5 E none (yZ a y)=yZ a y:=by simp[z5]
    rw[hcb]at hrun
    have hvb:V.beq (.agg a) (.agg y)=yZ a y:=by simp only[V.beq]
    rw[hvb]at h
    cases hb:yZ a y with
    | true=>
     rw[hb]at h hrun
     obtain⟨_,h⟩:=zcw h
     cases h
     simp[Instr.findAsking,h1,h2,hrun]
    | false=>
     rw[hb]at h hrun
     have:=zet heq ρ w ha ps es (i+1) r h h3
     simp[Instr.findAsking,h1,hrun,this]
theorem zdE {e:TypeId} (h:zc2 P e=true):(∃ kd,P.underlying e=some (.int kd))/\zaR P e=true/\yb P e=1:=by
 unfold zc2 at h
 simp only[Bool.and_eq_true,Nat.beq_eq]at h
 refine⟨?_,h.1.2,h.2⟩
 have:=h.1.1
 split at this
 ·rename_i kd hk;exact⟨kd,hk⟩
 ·cases this
theorem zi3 {e:TypeId} (h:zc2 P e=true) (em:Bool) (n:Nat) (x:Value) (w:World) (hx:∃ k m,x=.int k m):(Instr.checkKey em (n+1) e x).run P w=.ok () w:=by
 obtain⟨⟨kd,hu⟩,_⟩:=zdE h
 obtain⟨k,m,rfl⟩:=hx
 simp[Instr.checkKey,run_underlying hu]
theorem ztD {e:TypeId} (h:zc2 P e=true) (ρ:Rho) (w:World) {a:List V} {off:Nat} (ho:off<a.length):(Go.part e (γL E ρ a).toArray off).run P w=.ok ((a[off]).γ E ρ) w:=by
 obtain⟨⟨kd,hu⟩,h2,h3⟩:=zdE h
 have hg:zar P e=false:=by rw[zdK hu];rfl
 refine(zbw (E:=E) (w:=w) h2 (ρ:=ρ) (l:=a) (o:=off) (v:=a[off]) ?_).1
 rw[hg]
 unfold Go.Ev.part
 simp only[Bool.false_eq_true,if_false]
 rw[zX]
 simp[ho]
theorem zeq {k:TypeId} {l:List EK} (hl:eqT P k=some l) (hwide:(match P.underlying k with | some (.array _ _) | some (.struct _)=>true | _=>false)=true)
  (hc:∀ (E:Env) (ρ:Rho) (w:World) (em:Bool) (a:List V),zah l a=true->(Instr.checkKey em 10000 k (.agg (γL E ρ a).toArray)).run P w=.ok () w):KeySpec P k (.agg l) where
 check:=fun E ρ w em v hv=>by
  obtain⟨a,rfl,ha⟩:=zdC hv
  exact hc E ρ w em a (zcU ha)
 checkS:=fun E ρ w em v hv=>by
  cases v <;> simp only[zlY]at hv <;> first | (simp at hv;done) | exact hc E ρ w em _ hv
 findS:=fun E ρ w v ps es hv hx he=>by
  cases v <;> simp only[zlY]at hv <;> first | (simp at hv;done) | skip
  rename_i a
  show (Instr.findKey k (.agg (γL E ρ a).toArray) es).run P w=.ok none w
  rw[run_findKey_eq w hwide]
  generalize 0=i
  induction ps generalizing es i with
  | nil=>
   obtain rfl:es=[]:=by simpa using he
   simp[Instr.findAsking]
  | cons p ps ih=>
   cases es with
   | nil=>simp at he
   | cons e es=>
    simp only[List.map_cons,List.cons.injEq,Prod.mk.injEq]at he
    obtain⟨⟨h1,h2⟩,h3⟩:=he
    have hp:=hx p (List.mem_cons_self ..)
    obtain⟨p1,p2⟩:=p
    cases p1 <;> simp only[exK]at hp <;> first | (simp at hp;done) | skip
    rename_i y
    simp only[Bool.and_eq_true]at hp
    obtain⟨c,t,g1,g2⟩:=zmb (E:=E) hv hp.1
    have hrun:=(zcj k l hl).2 E ρ w a y c t g1
    rw[g2 hp.2]at hrun
    have h1:e.key=.agg (γL E ρ y).toArray:=h1
    have:=ih es h3 (fun q hq=>hx q (List.mem_cons_of_mem _ hq)) (i+1)
    simp[Instr.findAsking,h1,hrun,this]
 find:=fun E ρ w v ps r es hv hf he=>by
  obtain⟨a,rfl,ha⟩:=zdC hv
  have h1:=zet (P:=P) (k:=k) (zcj k l hl).2 ρ w ha ps es 0 r hf he
  rw[<- run_findKey_eq w hwide]at h1
  exact h1
 stays:=fun E ρ w v hv=>by
  obtain⟨a,rfl,ha⟩:=zdC hv
  have hs:Instr.sameBits 10000 (.agg (γL E ρ a).toArray) (.agg (γL E ρ a).toArray)=true:=by
   show Instr.sameBits (9999+1) _ _=true
   simp only[Instr.sameBits,beq_self_eq_true,Bool.true_and,List.all_eq_true]
   intro p hp
   obtain⟨i,hi,e⟩:=List.getElem_of_mem hp
   rw[List.getElem_zip]at e
   rw[<- e]
   obtain⟨kk,n,hx⟩:=zxS (E:=E) ρ ha _ (List.getElem_mem (by simpa using hi))
   simp only[List.toList_toArray]at hx ⊢
   rw[hx]
   simp[Instr.sameBits]
  simp[Instr.keyThatStays,V.γ,hs]
theorem kk_ok {k:TypeId} {kk:KK} (h:kkOf P k=some kk):KeySpec P k kk:=by
 unfold kkOf at h
 split at h
 ·rename_i kd hu
  cases h
  exact ztZ hu
 ·rename_i n e hu
  split at h
  ·rename_i l hl
   split at h
   ·rename_i hc
    simp only[Bool.and_eq_true,Nat.beq_eq,yV]at hc
    cases h
    refine zeq hl (by rw[hu]) fun E ρ w em a ha=>?_
    have hlen:=zjh ha
    obtain⟨i,hi,his⟩:=zcA (zdE hc.1).2.1
    have hsz:=(zdE hc.1).2.2
    rw[show (10000:Nat)=9999+1 from rfl,Instr.checkKey]
    simp only[Sem.run_bind,run_underlying hu,Result.andThen_ok]
    simp only[Std.Legacy.Range.forIn_eq_forIn_range',Std.Legacy.Range.size,Nat.sub_zero,Nat.add_one_sub_one,Nat.div_one]
    have each:∀ j∈List.range' 0 n,j<a.length:=fun j hj=>by
     have:=List.mem_range'_1.1 hj
     omega
    generalize List.range' 0 n=is at each
    induction is with
    | nil=>simp
    | cons j is ih=>
     have hj:=each j (by simp)
     have p1:=ztD (E:=E) hc.1 ρ w hj
     obtain⟨kk,m,hx⟩:=zct (E:=E) ρ ha ((a[j]).γ E ρ) (by rw[γL_eq];exact List.mem_map.2 ⟨_,List.getElem_mem hj,rfl⟩)
     have p2:=zi3 hc.1 em 9998 ((a[j]).γ E ρ) w ⟨kk,m,hx⟩
     have hs:(sizeOf e).run P w=.ok 1 w:=by rw[(jE (zdE hc.1).2.1).1,hsz]
     simp only[List.forIn_cons,Sem.run_bind,hs,Nat.mul_one,Result.andThen_ok,p1,p2,Sem.run_pure]
     exact ih (fun y hy=>each y (by simp[hy]))
   ·cases h
  ·cases h
 ·rename_i fl hu
  split at h
  ·rename_i l hl
   split at h
   ·rename_i hc
    cases h
    refine zeq hl (by rw[hu]) fun E ρ w em a ha=>?_
    have hlen:=zjh ha
    have each : ∀ f ∈ fl.toList, f.name ≠ "_" /\ zc2 P f.type = true /\ f.offset < a.length := fun f hf => by
     have:=(zcD _ _).1 hc f hf
     simp only[Bool.and_eq_true,decide_eq_true_eq,yV,Nat.blt_eq]at this
     exact⟨this.1.1,this.1.2,by omega⟩
    rw[show (10000:Nat)=9999+1 from rfl,Instr.checkKey]
    simp only[Sem.run_bind,run_underlying hu,Result.andThen_ok]
    rw[<- Array.forIn_toList]
    generalize fl.toList=L at each
    induction L with
    | nil=>simp
    | cons f L ih=>
     obtain⟨hn,ht,ho⟩:=each f (by simp)
     have p1:=ztD (E:=E) ht ρ w ho
     obtain⟨kk,m,hx⟩:=zct (E:=E) ρ ha ((a[f.offset]).γ E ρ) (by rw[γL_eq];exact List.mem_map.2 ⟨_,List.getElem_mem ho,rfl⟩)
     have p2:=zi3 ht em 9998 ((a[f.offset]).γ E ρ) w ⟨kk,m,hx⟩
     simp only[List.forIn_cons,Sem.run_bind,hn,ne_eq,not_false_eq_true,if_true,Result.andThen_ok,p1,p2,Sem.run_pure]
     exact ih (fun y hy=>each y (by simp[hy]))
   ·cases h
  ·cases h
 ·cases h
theorem ztM:MpSpec P (zr P):=by
 intro t kk z h
 have h:mpT P t=some (kk,z):=h
 unfold mpT at h
 split at h
 ·rename_i k e hu
  split at h
  ·rename_i kk' z' h1 h2
   cases h
   exact⟨k,e,hu,kk_ok h1,h2⟩
  ·cases h
 ·cases h
theorem zx:TyOk P (zr P):=⟨fun t=>.inr rfl,zcj,ztM⟩
end Go.Ev
end
set_option linter.unusedSimpArgs false
set_option linter.unusedVariables false
noncomputable section
namespace Go.Ev
open Go
variable {E:Env} {P:Program}
def ziF:PT O->PT O->Bool
 | .e,.e=>true
 | .n v l r,.n v' l' r'=>zaH v v' && ziF l l' && ziF r r'
 | _,_=>false
theorem zfr:∀ {x y:PT O},ziF x y=true->x=y
 | .e,y,h=>by cases y <;> simp only[ziF]at h <;> first | (simp at h;done) | rfl
 | .n v l r,y,h=>by cases y <;> simp only[ziF,Bool.and_eq_true]at h <;> first | (simp at h;done) | rw[jD h.1.1,zfr h.1.2,zfr h.2]
def H.beq (a b:H):Bool:=hc a (fun n lo t=>hc b (fun n' lo' t'=>pEq n n' && pEq lo lo' && ziF t t'))
theorem H.beq_ok {a b:H} (h:H.beq a b=true):a=b:=by
 cases a;cases b
 simp only[H.beq,jX,Bool.and_eq_true]at h
 rw[jn h.1.1,jn h.1.2,zfr h.2]
structure Memo where
 F:Nat
 l:List V
 h:H
 v:V
 h':H
end Go.Ev
end
set_option linter.unusedSimpArgs false
set_option linter.unusedVariables false
noncomputable section
namespace Go.Ev
open Go
variable {E:Env} {P:Program}
def ooSub:Option O->Option O->Bool
 | none,_=>true
 | some a,some b=>O.beq a b
 | _,_=>false
def ptSub:PT O->PT O->Bool
 | .e,_=>true
 | .n v l r,.n v' l' r'=>ooSub v v' && ptSub l l' && ptSub r r'
 | _,_=>false
def chk (v:V) (hq:H):K:=fun v2 h2 _=>bc (V.beq v2 v) (bc (hc hq (fun n lo t=>hc h2 (fun n' lo' t'=>pEq n n' && pEq lo lo' && ptSub t t'))) 0 1) 1
end Go.Ev
end
set_option linter.unusedSimpArgs false
set_option linter.unusedVariables false
noncomputable section
namespace Go.Ev
open Go
variable {E:Env} {P:Program}
def zdr (f:List V->Option V):List V->H->Fa->K->Nat:=fun l h fa k=>oc (f l) (fun v=>k v h fa) 1
theorem ztA {F:Nat} {f:List V->Option V} (hca:yl P F)
  (hf:∀ l v,f l=some v->v.bd 0/\∀ (E:Env) (ρ:Rho) (w:World),Calls P F (γL E ρ l).toArray w fun e w'=>e=.returned (v.γ E ρ)/\w'.heap=w.heap/\w'.os=w.os/\w'.tape=w.tape/\w'.output=w.output) :
  zi E P (fun G l h fa k=>bc (Nat.beq G F) (zdr f l h fa k) 1):=by
 intro G l h fa k hk hfa
 obtain⟨hG,hk2⟩:=zn (show bc (Nat.beq G F) (zdr f l h fa k) 1=0 from hk) (by simp)
 clear hk
 have hG:G=F:=by simpa using hG
 subst hG
 obtain⟨v,hv,hk⟩:=zA (show oc (f l) _ 1=0 from hk2) (by simp)
 obtain⟨h1,h2⟩:=hf l v hv
 refine⟨hca,v,h,fa,hk,hfa,fun ρ w hb hs=>(h2 E ρ w).mono ?_⟩
 rintro e w' ⟨he,hh,ho,ht,hu⟩
 exact⟨ρ,he,⟨fun p o hp=>by rw[hh];exact hs.obj p o hp,hs.inj,hs.bd⟩,
  ⟨Nat.le_refl _,rfl,fun _ _=>rfl,fun p o h3 h4=>by have:=(hs.bd p o h4).1;omega,ho,ht,hu,by rw[hh];exact Nat.le_refl _,fun _ _ _=>by rw[hh],fun _ _ _=>rfl,fun p o _ h3 h4=>⟨o,h3,h4⟩⟩,bd_mono (Nat.zero_le _) v h1⟩
def zvl:List V->Option V
 | [.i .u64 (.ofNat n)]=>bc (Nat.blt n 18446744073709551616) (some (.i .i64 (.ofNat (Lib.bitLen n)))) none
 | _=>none
theorem zAq {F:Nat} (hca:yl P F)
  (hc:∀ (x:Int) (w:World),0<=x->x<=18446744073709551615->Calls P F #[.int .u64 x] w fun e w'=>e=.returned (.int .i64 (Lib.bitLen x.toNat))/\w'=w) :
  zi E P (fun G l h fa k=>bc (Nat.beq G F) (zdr zvl l h fa k) 1):=by
 refine ztA hca fun l v hv=>?_
 unfold zvl at hv
 split at hv
 ·rename_i n
  cases hn:Nat.blt n 18446744073709551616 with
  | false=>rw[hn]at hv;cases hv
  | true=>
   rw[hn]at hv
   have hv:some (V.i .i64 (.ofNat (Lib.bitLen n)))=some v:=hv
   cases hv
   have hn:n<18446744073709551616:=by simpa using hn
   refine⟨trivial,fun E ρ w=>(hc (.ofNat n) w (Int.natCast_nonneg n) (by show (n:Int)<=_;omega)).mono ?_⟩
   rintro e w' ⟨rfl,rfl⟩
   exact⟨rfl,rfl,rfl,rfl,rfl⟩
 ·cases hv
end Go.Ev
end
set_option linter.unusedSimpArgs false
set_option linter.unusedVariables false
noncomputable section
namespace Go.Ev
open Go
structure DE where
 F:Nat
 pre:List V
 caps:List V
 l:List V
inductive IX where
 | pure (c:IC) | seq (a b:IX) | cond (t:Ky) (a b:IX) | block (i:Nat) (a:IX) | dfr (l:List OI) (f:Od) (args:List Od) | bad
abbrev K3:=AE->Fr->H->Fa->List DE->Nat
abbrev S3:=Ctx->Fr->H->Fa->List DE->K3->Nat
def xPure (c:S2):S3:=fun g fr h fa ds k=>c g fr h fa (fun e fr h fa=>k e fr h fa ds)
def xSeq (a b:S3):S3:=fun g fr h fa ds k=>a g fr h fa ds (fun e fr h fa ds=>je e (b g fr h fa ds k) (k .ret fr h fa ds) (fun i=>k (.exit i) fr h fa ds))
def xCond (t:Ky) (a b:S3):S3:=fun g fr h fa ds k=>way fa (fr.get t) (fun x fa=>bc x (a g fr h fa ds k) (b g fr h fa ds k)) (err g 44)
def xBlock (i:Nat) (a:S3):S3:=fun g fr h fa ds k=>a g fr h fa ds (fun e fr h fa ds=>je e (k .normal fr h fa ds) (k .ret fr h fa ds) (fun j=>bc (Nat.beq j i) (k .normal fr h fa ds) (k (.exit j) fr h fa ds)))
def xDfr (l:List OI) (f:Od) (args:List Od):S3:=fun g fr h fa ds k=>zaM l g fr h fa (fun fr h fa=>vFn (od f fr) (fun G pre caps=>oc (ods args fr) (fun l=>k .normal fr h fa (⟨G,pre,caps,l⟩::ds)) (err g 71)) (err g 72))
def xBad:S3:=fun g _ _ _ _ _=>err g 73
def za9:IX->S3
 | .pure c=>xPure (jp c)
 | .seq a b=>xSeq (za9 a) (za9 b)
 | .cond t a b=>xCond t (za9 a) (za9 b)
 | .block i a=>xBlock i (za9 a)
 | .dfr l f args=>xDfr l f args
 | .bad=>xBad
def zbh:Code->Bool
 | .seq a b=>zbh a && zbh b
 | .cond _ a b=>zbh a && zbh b
 | .block _ a=>zbh a
 | .loop a=>zbh a
 | .scope a=>zbh a
 | .region _ ops _=>yP (fun o:Oper=>match o.op with | .defer _=>false | _=>true) ops.toList
 | _=>true
def zd1 {α:Type}:List α->Option (List α × α)
 | []=>none
 | [a]=>some ([],a)
 | a::r=>(zd1 r).map (fun p=>(a::p.1,p.2))
def cDfr (Y:Ty) (N:Nat) (ops:List Oper):IX:=match zd1 ops with
 | some (l,o)=>match zY Y N ops l,o.op,o.dst,o.guard with
  | some l,.defer c,none,none=>match c.callee with
   | .value f=>match cOd f,zeA c.args.toList with
    | some f,some args=>.dfr l f args
    | _,_=>.bad
   | _=>.bad
  | _,_,_,_=>.bad
 | none=>.bad
def jy (Y:Ty) (N:Nat) (dr:Nat->Option Dr) (c:Code):IX:=
 bc (zbh c) (.pure (yo Y N dr c)) (match c with
  | .seq a b=>.seq (jy Y N dr a) (jy Y N dr b)
  | .cond (.tmp t) a b=>.cond (zp t) (jy Y N dr a) (jy Y N dr b)
  | .block i a=>.block i (jy Y N dr a)
  | .scope a=>jy Y N dr a
  | .region _ ops false=>cDfr Y N ops.toList
  | _=>.bad)
structure IFx where
 body:IX
 res:List IR
def cFnX (Y:Ty) (dr:Nat->Option Dr) (f:Func):Option IFx:=
 match f.body,zbd Y f.results.toList with
 | some c,some rs=>some ⟨jy Y f.ntmps dr c,rs⟩
 | _,_=>none
def leaveN:H->Fa->(H->Fa->Nat)->Nat:=fun h fa k=>k h fa
def leaveC (dcall:zy) (d:DE) (_:List DE) (ih:H->Fa->(H->Fa->Nat)->Nat):H->Fa->(H->Fa->Nat)->Nat:=
 fun h fa k=>DE.rec (motive:=fun _=>Nat) (fun F pre caps l=>dcall F (app pre (app l caps)) h fa (fun _ h fa=>ih h fa k)) d
def zfD (dcall:zy) (ds:List DE):H->Fa->(H->Fa->Nat)->Nat:=yC leaveN (leaveC dcall) ds
def dfnT (b:IX) (rs:List IR) (call dcall:zy) (F fuel:Nat) (l:List V) (h:H) (fa:Fa) (k:K):Nat:=
 zbp l (fun fr=>za9 b ⟨call,F,fuel⟩ fr h fa [] (fun e fr h fa ds=>je e
  (zfD dcall ds h fa (fun h fa=>za0 rs fr h (fun v=>k v h fa) 1))
  (zfD dcall ds h fa (fun h fa=>za0 rs fr h (fun v=>k v h fa) 1)) (fun _=>1)))
def zvB (C:Cx) (inner:zy):zy:=fun G l h fa k=>oc (C.fn G) (fun f=>zi5 C inner G f l h fa k) 1
end Go.Ev
end
set_option linter.unusedSimpArgs false
set_option linter.unusedVariables false
noncomputable section
namespace Go.Ev
open Go
variable {E:Env} {P:Program} {N:Nat}
def DE.γ (E:Env) (ρ:Rho) (d:DE):Deferred:={ target:=.fn (.func d.F) (γL E ρ d.caps).toArray,args:=(γL E ρ d.pre).toArray ++ (γL E ρ d.l).toArray }
def DE.bd (n:Nat) (d:DE):Prop:=bdL n d.pre/\bdL n d.caps/\bdL n d.l
def DsOk (E:Env) (ρ:Rho) (n:Nat) (ds:List DE) (dl:List Deferred):Prop:=dl=ds.map (DE.γ E ρ)/\∀ d∈ds,d.bd n
theorem DsOk.mono {ρ ρ':Rho} {n n':Nat} {ds:List DE} {dl:List Deferred} (h:DsOk E ρ n ds dl) (hn:n<=n') (ha:∀ i:Ev.P,i.toNat<n->ρ' i=ρ i):DsOk E ρ' n' ds dl:=by
 obtain⟨rfl,hb⟩:=h
 refine⟨List.map_congr_left fun d hd=>?_,fun d hd=>?_⟩
 ·obtain⟨b1,b2,b3⟩:=hb d hd
  simp only[DE.γ,γL_agree E ha _ b1,γL_agree E ha _ b2,γL_agree E ha _ b3]
 ·obtain⟨b1,b2,b3⟩:=hb d hd
  exact⟨yO hn _ b1,yO hn _ b2,yO hn _ b3⟩
def AtX (E:Env) (N:Nat) (ρ:Rho) (h:H) (w:World) (fr':Fr) (h':H) (ds':List DE) (a':Act) (w':World):Prop:=
 ∃ ρ',zw E ρ' h'.n.toNat fr' a'.tmps/\N<=a'.tmps.size/\DsOk E ρ' h'.n.toNat ds' a'.defers/\Sat E ρ' h' w'/\Ext ρ h w ρ' h' w'
def RunsX (E:Env) (P:Program) (N:Nat) (c:Code) (fr:Fr) (h:H) (ds:List DE) (k:K3):Prop:=
 ∃ ae fr' h' fa' ds',k ae fr' h' fa' ds'=0/\FaOk E fa'/\∀ ρ w a QQ,Sat E ρ h w->zw E ρ h.n.toNat fr (a:Act).tmps->N<=a.tmps.size->DsOk E ρ h.n.toNat ds a.defers ->
  (∀ a' w',AtX E N ρ h w fr' h' ds' a' w'->QQ (AE.exit' ae) a' w')->c.wp P QQ a w
theorem AtX.trans {ρ ρ1:Rho} {h h1:H} {w w1:World} (hx:Ext ρ h w ρ1 h1 w1) {fr:Fr} {h':H} {ds:List DE} {a:Act} {w':World} (s:AtX E N ρ1 h1 w1 fr h' ds a w'):AtX E N ρ h w fr h' ds a w':=by
 obtain⟨ρ',s1,s2,s3,s4,s5⟩:=s
 exact⟨ρ',s1,s2,s3,s4,hx.trans s5⟩
theorem ziI {Y:Ty} (hY:TyOk P Y) {ops:Array Oper} {c:Ctx} (hcall:zi E P c.call) {k:K1} (rest:List Oper):∀ (l:List Oper) (l':List OI) (fr:Fr) (h:H) (fa:Fa),zY Y N ops.toList l=some l'->FaOk E fa->zaM l' c fr h fa k=0 ->
  ∃ fr' h' fa',k fr' h' fa'=0/\FaOk E fa'/\∀ {DS:List Deferred} ρ w a QQ,Sat E ρ h w->zw E ρ h.n.toNat fr (a:Act).tmps->N<=a.tmps.size->a.defers=DS->(∀ a' w',At E N DS ρ h w fr' h' a' w'->wpList P ops QQ rest a' w')->wpList P ops QQ (l ++ rest) a w
 | [],l',fr,h,fa,hl,hfa,hk=>by
  simp[zY]at hl;subst hl
  exact⟨fr,h,fa,hk,hfa,fun {DS} ρ w a QQ hs hf hN hd hq=>hq a w ⟨ρ,hf,hN,hd,hs,hs.refl E⟩⟩
 | o::r,l',fr,h,fa,hl,hfa,hk=>by
  obtain⟨x,l2,hx,hl2,rfl⟩:=zaj hl
  have hk:OI.go zam jd x c fr h fa (fun fr h fa=>zaM l2 c fr h fa k)=0:=hk
  obtain⟨fr1,h1,fa1,hk1,hfa1,h2⟩:=zaF hY hx hcall hfa hk
  obtain⟨fr2,h2',fa2,hk2,hfa2,h3⟩:=ziI hY hcall rest r l2 fr1 h1 fa1 hl2 hfa1 hk1
  refine⟨fr2,h2',fa2,hk2,hfa2,fun {DS} ρ w a QQ hs hf hN hd hq=>?_⟩
  have next:∀ a1 w1,At E N DS ρ h w fr1 h1 a1 w1->wpList P ops QQ (r ++ rest) a1 w1:=by
   rintro a1 w1 ⟨ρ1,f1,n1,d1,s1,x1⟩
   exact h3 ρ1 w1 a1 QQ s1 f1 n1 d1 (fun a' w' hA=>hq a' w' (hA.trans x1))
  show wpList P ops QQ (o::(r ++ rest)) a w
  unfold wpList
  rcases h2 ρ w a QQ hs hf hN hd with ⟨hw,hwp⟩ | ⟨hw,hA⟩
  ·rw[if_pos hw]
   exact .inl (jB next hwp)
  ·rw[if_neg (by simp[hw])]
   exact next _ _ hA
theorem ziL {α:Type}:∀ (l:List α) {m:List α} {a:α},zd1 l=some (m,a)->l=m ++ [a]
 | [],m,a,h=>by simp[zd1]at h
 | [x],m,a,h=>by simp[zd1]at h;obtain⟨rfl,rfl⟩:=h;rfl
 | x::y::r,m,a,h=>by
  simp only[zd1,Option.map_eq_some_iff]at h
  obtain⟨⟨m',a'⟩,h1,h2⟩:=h
  cases h2
  rw[ziL (y::r) h1]
  rfl
theorem vFn_ok {x:Option V} {f:Nat->List V->List V->Nat} {e:Nat} (h:vFn x f e=0) (he:e≠0):∃ F p l,x=some (.fn F p l)/\f F p l=0:=by
 unfold vFn at h
 split at h
 ·exact⟨_,_,_,rfl,h⟩
 ·exact absurd h he
theorem y5 {Y:Ty} (hY:TyOk P Y) (hm:P.follows .mixedOrders=true) {dr:Nat->Option Dr} {g:Ctx} (hcall:zi E P g.call) (c:Code) (fr:Fr) (h:H) (fa:Fa) (ds:List DE) (k:K3) (hB:zH dr c=true) (hfa:FaOk E fa)
  (hk:za9 (.pure (yo Y N dr c)) g fr h fa ds k=0):RunsX E P N c fr h ds k:=by
 obtain⟨ae,fr1,h1,fa1,hk1,hfa1,r1⟩:=yF hY hm hcall c fr h fa (fun e fr h fa=>k e fr h fa ds) hB hfa hk
 refine⟨ae,fr1,h1,fa1,ds,hk1,hfa1,fun ρ w a QQ hs hf hN hd hQ=>r1 ρ w a QQ hs hf hN rfl ?_⟩
 rintro a' w' ⟨ρ1,f1,n1,d1,s1,x1⟩
 exact hQ a' w' ⟨ρ1,f1,n1,d1 ▸ hd.mono x1.len x1.agree,s1,x1⟩
theorem badX {g:Ctx} {fr:Fr} {h:H} {fa:Fa} {ds:List DE} {k:K3} (hk:za9 .bad g fr h fa ds k=0):False:=zl _ _ hk
theorem dfr_run {Y:Ty} (hY:TyOk P Y) {g:Ctx} (hcall:zi E P g.call) {id:Nat} {ops:Array Oper} {fr:Fr} {h:H} {fa:Fa} {ds:List DE} {k:K3} (hfa:FaOk E fa)
  (hk:za9 (cDfr Y N ops.toList) g fr h fa ds k=0):RunsX E P N (.region id ops false) fr h ds k:=by
 unfold cDfr at hk
 split at hk
 rotate_left
 ·exact(badX hk).elim
 rename_i l o hlast
 split at hk
 rotate_left
 ·exact(badX hk).elim
 rename_i l' c hl hop hdst hgu
 split at hk
 rotate_left
 ·exact(badX hk).elim
 rename_i f0 hcal
 split at hk
 rotate_left
 ·exact(badX hk).elim
 rename_i f args hf0 hargs
 have hk:zaM l' g fr h fa (fun fr h fa=>vFn (od f fr) (fun G pre caps=>oc (ods args fr) (fun l=>k .normal fr h fa (⟨G,pre,caps,l⟩::ds)) (err g 71)) (err g 72))=0:=hk
 obtain⟨fr1,h1,fa1,hk1,hfa1,r1⟩:=ziI hY hcall [o] l l' fr h fa hl hfa hk
 obtain⟨G,pre,caps,hG,hk1⟩:=vFn_ok hk1 (zl _ _)
 obtain⟨vs,hvs,hk1⟩:=zA hk1 (zl _ _)
 refine⟨.normal,fr1,h1,fa1,⟨G,pre,caps,vs⟩::ds,hk1,hfa1,fun ρ w a QQ hs hf hN hd hQ=>wp_region_list ?_⟩
 rw[ziL _ hlast]
 refine r1 ρ w a QQ hs hf hN rfl ?_
 rintro a1 w1 ⟨ρ1,f1,n1,d1,s1,x1⟩
 obtain⟨e1,b1⟩:=zq f1 hf0 hG
 obtain⟨e2,b2⟩:=zbJ f1 hargs hvs
 have hdd:DsOk E ρ1 h1.n.toNat ds a1.defers:=d1 ▸ hd.mono x1.len x1.agree
 have hargs:c.args.map a1.eval=(γL E ρ1 vs).toArray:=Array.toList_inj.1 (by rw[Array.toList_map];exact e2)
 have hex:(execOp a1.eval o).run P w1=.ok (.defer (DE.γ E ρ1 ⟨G,pre,caps,vs⟩)) w1:=by
  simp[execOp,hop,resolve,hcal,e1,V.γ,Deferred.ofValue,hargs,DE.γ]
 unfold wpList
 rw[if_pos (by simp[Region.wanted,hgu])]
 refine .inl ?_
 unfold Oper.wp
 rw[hex,Oper.upon_defer]
 show QQ .normal _ w1
 refine hQ _ w1 ⟨ρ1,?_,?_,⟨?_,?_⟩,s1,x1⟩
 ·simpa [Act.put,hdst] using f1
 ·simpa [Act.put,hdst] using n1
 ·simp only[Act.put,hdst,List.map_cons]
  rw[hdd.1]
 ·intro d hd
  rcases List.mem_cons.1 hd with rfl | hd
  ·exact⟨b1.1,b1.2,b2⟩
  ·exact hdd.2 d hd
theorem zaA {Y:Ty} (hY:TyOk P Y) (hm:P.follows .mixedOrders=true) {dr:Nat->Option Dr} {g:Ctx} (hcall:zi E P g.call):∀ (c:Code) (fr:Fr) (h:H) (fa:Fa) (ds:List DE) (k:K3),zH dr c=true->FaOk E fa ->
  za9 (jy Y N dr c) g fr h fa ds k=0->RunsX E P N c fr h ds k
 | .seq x y,fr,h,fa,ds,k,hB,hfa,hk=>by
  unfold jy at hk
  cases hn:zbh (.seq x y) with
  | true=>rw[hn]at hk;exact y5 hY hm hcall _ fr h fa ds k hB hfa hk
  | false=>
   rw[hn]at hk
   have hk:za9 (jy Y N dr x) g fr h fa ds (fun e fr h fa ds=>je e (za9 (jy Y N dr y) g fr h fa ds k) (k .ret fr h fa ds) (fun i=>k (.exit i) fr h fa ds))=0:=hk
   simp only[zH,Bool.and_eq_true]at hB
   obtain⟨ae,fr1,h1,fa1,ds1,hk1,hfa1,r1⟩:=zaA hY hm hcall x fr h fa ds _ hB.1 hfa hk
   cases ae with
   | normal=>
    obtain⟨ae,fr2,h2,fa2,ds2,hk2,hfa2,r2⟩:=zaA hY hm hcall y fr1 h1 fa1 ds1 k hB.2 hfa1 hk1
    refine⟨ae,fr2,h2,fa2,ds2,hk2,hfa2,fun ρ w a QQ hs hf hN hd hQ=>wp_seq (r1 ρ w a _ hs hf hN hd ?_)⟩
    rintro a1 w1 ⟨ρ1,f1,n1,d1,s1,x1⟩
    exact r2 ρ1 w1 a1 QQ s1 f1 n1 d1 fun a' w' hA=>hQ a' w' (hA.trans x1)
   | ret=>exact⟨.ret,fr1,h1,fa1,ds1,hk1,hfa1,fun ρ w a QQ hs hf hN hd hQ=>wp_seq (r1 ρ w a _ hs hf hN hd hQ)⟩
   | exit i=>exact⟨.exit i,fr1,h1,fa1,ds1,hk1,hfa1,fun ρ w a QQ hs hf hN hd hQ=>wp_seq (r1 ρ w a _ hs hf hN hd hQ)⟩
 | .cond o x y,fr,h,fa,ds,k,hB,hfa,hk=>by
  unfold jy at hk
  cases hn:zbh (.cond o x y) with
  | true=>rw[hn]at hk;exact y5 hY hm hcall _ fr h fa ds k hB hfa hk
  | false=>
   rw[hn]at hk
   simp only[zH,Bool.and_eq_true]at hB
   cases o with
   | tmp t=>
    have hk:way fa (fr.get (zp t)) (fun b fa=>bc b (za9 (jy Y N dr x) g fr h fa ds k) (za9 (jy Y N dr y) g fr h fa ds k)) (err g 44)=0:=hk
    obtain⟨v,b,fa',hv,hb,hfa',hk⟩:=zcR hk (zl _ _) hfa (fun _=>⟨0,0⟩)
    have hev:∀ ρ n (a:Act),zw E ρ n fr a.tmps->a.eval (.tmp t)=.bool b:=by
     intro ρ n a hf
     have h1:=(hf t v hv).1
     have h2:v.γ E ρ=.bool b:=by cases v <;> simp[V.γ]at hb ⊢ <;> exact hb
     simp[Act.eval,h1,h2]
    cases b with
    | true=>
     obtain⟨ae,fr1,h1,fa1,ds1,hk1,hfa1,r1⟩:=zaA hY hm hcall x fr h fa' ds k hB.1 hfa' hk
     exact⟨ae,fr1,h1,fa1,ds1,hk1,hfa1,fun ρ w a QQ hs hf hN hd hQ=>wp_cond_true (hev ρ _ a hf) (r1 ρ w a QQ hs hf hN hd hQ)⟩
    | false=>
     obtain⟨ae,fr1,h1,fa1,ds1,hk1,hfa1,r1⟩:=zaA hY hm hcall y fr h fa' ds k hB.2 hfa' hk
     exact⟨ae,fr1,h1,fa1,ds1,hk1,hfa1,fun ρ w a QQ hs hf hN hd hQ=>wp_cond_false (hev ρ _ a hf) (r1 ρ w a QQ hs hf hN hd hQ)⟩
   | _=>exact(badX hk).elim
 | .block i x,fr,h,fa,ds,k,hB,hfa,hk=>by
  unfold jy at hk
  cases hn:zbh (.block i x) with
  | true=>rw[hn]at hk;exact y5 hY hm hcall _ fr h fa ds k hB hfa hk
  | false=>
   rw[hn]at hk
   simp only[zH]at hB
   have hk:za9 (jy Y N dr x) g fr h fa ds (fun e fr h fa ds=>je e (k .normal fr h fa ds) (k .ret fr h fa ds) (fun j=>bc (Nat.beq j i) (k .normal fr h fa ds) (k (.exit j) fr h fa ds)))=0:=hk
   obtain⟨ae,fr1,h1,fa1,ds1,hk1,hfa1,r1⟩:=zaA hY hm hcall x fr h fa ds _ hB hfa hk
   cases ae with
   | normal=>exact⟨.normal,fr1,h1,fa1,ds1,hk1,hfa1,fun ρ w a QQ hs hf hN hd hQ=>wp_block (r1 ρ w a _ hs hf hN hd hQ)⟩
   | ret=>exact⟨.ret,fr1,h1,fa1,ds1,hk1,hfa1,fun ρ w a QQ hs hf hN hd hQ=>wp_block (r1 ρ w a _ hs hf hN hd hQ)⟩
   | exit j=>
    have hk2:bc (Nat.beq j i) (k .normal fr1 h1 fa1 ds1) (k (.exit j) fr1 h1 fa1 ds1)=0:=hk1
    clear hk1
    cases hj:Nat.beq j i with
    | true=>
     rw[hj]at hk2
     have hj:j=i:=by simpa using hj
     subst hj
     refine⟨.normal,fr1,h1,fa1,ds1,hk2,hfa1,fun ρ w a QQ hs hf hN hd hQ=>wp_block (r1 ρ w a _ hs hf hN hd fun a' w' hA=>?_)⟩
     show Exit.inBlock j _ (.exit j) a' w'
     simp only[Exit.inBlock,if_true]
     exact hQ a' w' hA
    | false=>
     rw[hj]at hk2
     have hj:¬ j=i:=by
      intro e;subst e;simp at hj
     refine⟨.exit j,fr1,h1,fa1,ds1,hk2,hfa1,fun ρ w a QQ hs hf hN hd hQ=>wp_block (r1 ρ w a _ hs hf hN hd fun a' w' hA=>?_)⟩
     show Exit.inBlock i _ (.exit j) a' w'
     simp only[Exit.inBlock,hj,if_false]
     exact hQ a' w' hA
 | .scope x,fr,h,fa,ds,k,hB,hfa,hk=>by
  unfold jy at hk
  cases hn:zbh (.scope x) with
  | true=>rw[hn]at hk;exact y5 hY hm hcall _ fr h fa ds k hB hfa hk
  | false=>
   rw[hn]at hk
   simp only[zH]at hB
   obtain⟨ae,fr1,h1,fa1,ds1,hk1,hfa1,r1⟩:=zaA hY hm hcall x fr h fa ds k hB hfa hk
   exact⟨ae,fr1,h1,fa1,ds1,hk1,hfa1,fun ρ w a QQ hs hf hN hd hQ=>wp_scope_straight (r1 ρ w a _ hs hf hN hd (by cases ae <;> exact hQ))⟩
 | .region id ops b,fr,h,fa,ds,k,hB,hfa,hk=>by
  unfold jy at hk
  cases hn:zbh (.region id ops b) with
  | true=>rw[hn]at hk;exact y5 hY hm hcall _ fr h fa ds k hB hfa hk
  | false=>
   rw[hn]at hk
   cases b with
   | true=>exact(badX hk).elim
   | false=>exact dfr_run hY hcall hfa hk
 | .skip,fr,h,fa,ds,k,hB,hfa,hk=>y5 hY hm hcall _ fr h fa ds k hB hfa hk
 | .ret,fr,h,fa,ds,k,hB,hfa,hk=>y5 hY hm hcall _ fr h fa ds k hB hfa hk
 | .exit i,fr,h,fa,ds,k,hB,hfa,hk=>y5 hY hm hcall _ fr h fa ds k hB hfa hk
 | .label i,fr,h,fa,ds,k,hB,hfa,hk=>y5 hY hm hcall _ fr h fa ds k hB hfa hk
 | .loop x,fr,h,fa,ds,k,hB,hfa,hk=>by
  unfold jy at hk
  cases hn:zbh (.loop x) with
  | true=>rw[hn]at hk;exact y5 hY hm hcall _ fr h fa ds k hB hfa hk
  | false=>rw[hn]at hk;exact(badX hk).elim
 | .rangeFunc _ _ _ _,fr,h,fa,ds,k,hB,hfa,hk=>y5 hY hm hcall _ fr h fa ds k hB hfa hk
 | .goto _,fr,h,fa,ds,k,hB,hfa,hk=>y5 hY hm hcall _ fr h fa ds k hB hfa hk
 | .refuse _,fr,h,fa,ds,k,hB,hfa,hk=>y5 hY hm hcall _ fr h fa ds k hB hfa hk
def zmn (E:Env) (P:Program) (dcall:zy):Prop:=∀ F l h fa k,dcall F l h fa k=0->FaOk E fa->yl P F/\∃ v h' fa',k v h' fa'=0/\FaOk E fa' /\
 ∀ u ρ w,bdL h.n.toNat l->Sat E ρ h w->CallsD P F (γL E ρ l).toArray u w fun e u' w'=>u'=u/\∃ ρ',e=.returned (v.γ E ρ')/\Sat E ρ' h' w'/\Ext ρ h w ρ' h' w'/\v.bd h'.n.toNat
theorem zi1 {Y:Ty} {C:Cx} (hC:CxOk E P Y C) {inner:zy} (ih:zi E P inner):zmn E P (zvB C inner):=by
  intro F l h fa k hk hfa
  have hk:oc (C.fn F) (fun f=>zi5 C inner F f l h fa k) 1=0:=hk
  cases hF:C.fn F with
  | none=>rw[hF]at hk;exact absurd (show (1:Nat)=0 from hk) (by simp)
  | some i=>
    rw[hF]at hk
    have hk:zi5 C inner F i l h fa k=0:=hk
    obtain⟨f,dr,hfn,hca,hcf,hdr⟩:=hC.fn F i hF
    refine⟨hca,?_⟩
    unfold cFn at hcf
    split at hcf
    rotate_left
    ·simp at hcf
    rename_i c rs hc hrs
    simp at hcf;subst hcf
    obtain⟨fr,hk,hfr⟩:=jH hk
    obtain⟨ae,fr1,h1,fa1,hk1,hfa1,hrun⟩:=yF hC.ty hC.mixed (g:=⟨inner,F,C.fuel⟩) ih c fr h fa _ (hdr c hc) hfa hk
    have fin:(AE.exit' ae=.normal\/AE.exit' ae=.ret)->za0 rs fr1 h1 (fun v=>k v h1 fa1) (Nat.succ (Nat.add (Nat.mul F 100) 49))=0->∃ v h' fa',k v h' fa'=0/\FaOk E fa' /\
      ∀ u ρ w,bdL h.n.toNat l->Sat E ρ h w->CallsD P F (γL E ρ l).toArray u w fun e u' w'=>u'=u/\∃ ρ',e=.returned (v.γ E ρ')/\Sat E ρ' h' w'/\Ext ρ h w ρ' h' w'/\v.bd h'.n.toNat:=by
     intro hae hr
     obtain⟨vs,hvs,hr⟩:=zA (show oc (zbv fr1 h1 rs) _ _=0 from hr) (by simp)
     have hv:∃ v,k v h1 fa1=0/\(∀ n,bdL n vs->v.bd n)/\∀ ρ,(if h:(γL E ρ vs).toArray.size=1 then (γL E ρ vs).toArray[0] else .tuple (γL E ρ vs).toArray)=v.γ E ρ:=by
      match vs,hr with
      | [],hr=>exact⟨.tup [],hr,fun n hn=>hn,fun ρ=>rfl⟩
      | [x],hr=>exact⟨x,hr,fun n hn=>hn.1,fun ρ=>by simp[γL]⟩
      | x::y::r,hr=>exact⟨.tup (x::y::r),hr,fun n hn=>hn,fun ρ=>by simp[γL,V.γ]⟩
     obtain⟨v,hkv,hvb,hvγ⟩:=hv
     refine⟨v,h1,fa1,hkv,hfa1,fun u ρ w hb hs=>?_⟩
     refine callsD_of_wp hfn hc ?_
     ·have hf:zw E ρ h.n.toNat fr ((γL E ρ l).toArray ++ Array.replicate (f.ntmps - (γL E ρ l).toArray.size) undef):=by
       intro t v hv
       have h2:=hfr t v hv
       have ht:t<l.length:=(List.getElem?_eq_some_iff.1 h2).1
       refine⟨?_,(yg _ l).1 hb v (List.mem_of_getElem? h2)⟩
       rw[Array.getElem?_append_left (by simp[γL_length];exact ht)]
       simp[γL_get,h2]
      refine hrun ρ w { tmps:=(γL E ρ l).toArray ++ Array.replicate (f.ntmps - (γL E ρ l).toArray.size) undef,defers:=[] } _ hs hf (by simp[γL_length];omega) rfl ?_
      rintro a1 w1 ⟨ρ1,f1,n1,d1,s1,x1⟩
      obtain⟨e1,b1⟩:=js hC.ty hrs s1 f1 hvs
      rw[hvγ]at e1
      have:bodyPost P f (fun e w'=>∃ ρ',e=.returned (v.γ E ρ')/\Sat E ρ' h1 w'/\Ext ρ h w ρ' h1 w'/\v.bd h1.n.toNat) .ret a1 w1:=⟨d1,_,e1,ρ1,rfl,s1,x1,hvb _ b1⟩
      rcases hae with h | h <;> rw[h] <;> exact this
    cases ae with
    | normal=>exact fin (.inl rfl) hk1
    | ret=>exact fin (.inr rfl) hk1
    | exit i=>exact absurd (show Nat.succ _=0 from hk1) (by simp)
theorem zfC {dcall:zy} (hd:zmn E P dcall):∀ (ds:List DE) (h:H) (fa:Fa) (k:H->Fa->Nat),zfD dcall ds h fa k=0->FaOk E fa->∃ h' fa',k h' fa'=0/\FaOk E fa' /\
  ∀ (fn:Func) (tmps:Array Value) ρ w dl (R:Ending->World->Prop),Sat E ρ h w->DsOk E ρ h.n.toNat ds dl->(∀ ρ' w',Sat E ρ' h' w'->Ext ρ h w ρ' h' w'->∃ v,(results fn tmps).run P w'=.ok v w'/\R (.returned v) w')->Leaves P fn tmps R dl .returning w
 | [],h,fa,k,hk,hfa=>⟨h,fa,hk,hfa,fun fn tmps ρ w dl R hs hdl hR=>by rw[hdl.1];exact hR ρ w hs (hs.refl E)⟩
 | d::r,h,fa,k,hk,hfa=>by
  obtain⟨F,pre,caps,l⟩:=d
  have hk:dcall F (app pre (app l caps)) h fa (fun _ h fa=>zfD dcall r h fa k)=0:=hk
  obtain⟨hca,v,h1,fa1,hk1,hfa1,r1⟩:=hd F _ h fa _ hk hfa
  obtain⟨h2,fa2,hk2,hfa2,r2⟩:=zfC hd r h1 fa1 k hk1 hfa1
  refine⟨h2,fa2,hk2,hfa2,fun fn tmps ρ w dl R hs hdl hR=>?_⟩
  obtain⟨rfl,hb⟩:=hdl
  obtain⟨b1,b2,b3⟩:=hb _ (List.mem_cons_self ..)
  have hbd:bdL h.n.toNat (app pre (app l caps)):=by
   rw[zaf,zaf,yg]
   intro x hx
   rcases List.mem_append.1 hx with h1 | h1
   ·exact(yg _ pre).1 b1 x h1
   ·rcases List.mem_append.1 h1 with h1 | h1
    ·exact(yg _ l).1 b3 x h1
    ·exact(yg _ caps).1 b2 x h1
  refine leaves_cons (f:=F) (args:=(γL E ρ (app pre (app l caps))).toArray) (by simp) ?_ ?_
  ·have:(invoke (.fn (.func F) (γL E ρ caps).toArray) ((γL E ρ pre).toArray ++ (γL E ρ l).toArray))=callFunc F ((γL E ρ pre).toArray ++ (γL E ρ l).toArray ++ (γL E ρ caps).toArray):=rfl
   rw[this,hca,zaf,zaf,γL_app,γL_app]
   simp
  ·refine(r1 .returning ρ w hbd hs).mono ?_
   rintro e u' w' ⟨rfl,ρ',rfl,s1,x1,_⟩
   show Leaves P fn tmps R _ .returning w'
   refine r2 fn tmps ρ' w' _ R s1 ?_ fun ρ2 w2 s2 x2=>hR ρ2 w2 s2 (x1.trans x2)
   exact DsOk.mono (ds:=r) ⟨rfl,fun d hd=>hb d (List.mem_cons_of_mem _ hd)⟩ x1.len x1.agree
theorem dfn_ok {Y:Ty} (hY:TyOk P Y) (hm:P.follows .mixedOrders=true) {call dcall:zy} (hcall:zi E P call) (hdc:zmn E P dcall) {dr:Nat->Option Dr} {fuel F:Nat} {f:Func} {i:IFx} (hfn:P.funcs[F]? = some f) (hca:yl P F)
  (hi:cFnX Y dr f=some i) (hdr:∀ c,f.body=some c->zH dr c=true):zi E P (fun G l h fa k=>bc (Nat.beq G F) (dfnT i.body i.res call dcall F fuel l h fa k) 1):=by
 intro G l h fa k hk hfa
 obtain⟨hG,hk⟩:=zn (show bc (Nat.beq G F) _ 1=0 from hk) (by simp)
 have hG:G=F:=by simpa using hG
 subst hG
 refine⟨hca,?_⟩
 unfold cFnX at hi
 split at hi
 rotate_left
 ·simp at hi
 rename_i c rs hb hrs
 simp at hi;subst hi
 obtain⟨fr,hk,hfr⟩:=jH hk
 obtain⟨ae,fr1,h1,fa1,ds1,hk1,hfa1,r1⟩:=zaA hY hm (g:=⟨call,G,fuel⟩) hcall c fr h fa [] _ (hdr c hb) hfa hk
 have fin:(AE.exit' ae=.normal\/AE.exit' ae=.ret)->zfD dcall ds1 h1 fa1 (fun h fa=>za0 rs fr1 h (fun v=>k v h fa) 1)=0->∃ v h' fa',k v h' fa'=0/\FaOk E fa' /\
   ∀ ρ w,bdL h.n.toNat l->Sat E ρ h w->Calls P G (γL E ρ l).toArray w fun e w'=>∃ ρ',e=.returned (v.γ E ρ')/\Sat E ρ' h' w'/\Ext ρ h w ρ' h' w'/\v.bd h'.n.toNat:=by
  intro hae hl
  obtain⟨h2,fa2,hr,hfa2,hlv⟩:=zfC hdc ds1 h1 fa1 _ hl hfa1
  obtain⟨vs,hvs,hr⟩:=zA (show oc (zbv fr1 h2 rs) _ _=0 from hr) (by simp)
  have hv:∃ v,k v h2 fa2=0/\(∀ n,bdL n vs->v.bd n)/\∀ ρ,(if h:(γL E ρ vs).toArray.size=1 then (γL E ρ vs).toArray[0] else .tuple (γL E ρ vs).toArray)=v.γ E ρ:=by
   match vs,hr with
   | [],hr=>exact⟨.tup [],hr,fun n hn=>hn,fun ρ=>rfl⟩
   | [x],hr=>exact⟨x,hr,fun n hn=>hn.1,fun ρ=>by simp[γL]⟩
   | x::y::r,hr=>exact⟨.tup (x::y::r),hr,fun n hn=>hn,fun ρ=>by simp[γL,V.γ]⟩
  obtain⟨v,hkv,hvb,hvγ⟩:=hv
  refine⟨v,h2,fa2,hkv,hfa2,fun ρ w hbd hs=>calls_of_wp_defers hfn hb ?_⟩
  have hf:zw E ρ h.n.toNat fr ((γL E ρ l).toArray ++ Array.replicate (f.ntmps - (γL E ρ l).toArray.size) undef):=by
   intro t v hv
   have h2:=hfr t v hv
   have ht:t<l.length:=(List.getElem?_eq_some_iff.1 h2).1
   refine⟨?_,(yg _ l).1 hbd v (List.mem_of_getElem? h2)⟩
   rw[Array.getElem?_append_left (by simp[γL_length];exact ht)]
   simp[γL_get,h2]
  refine r1 ρ w { tmps:=(γL E ρ l).toArray ++ Array.replicate (f.ntmps - (γL E ρ l).toArray.size) undef,defers:=[] } _ hs hf (by simp[γL_length];omega) ⟨rfl,by simp⟩ ?_
  rintro a1 w1 ⟨ρ1,f1,n1,d1,s1,x1⟩
  have:bodyPostD P f (fun e w'=>∃ ρ',e=.returned (v.γ E ρ')/\Sat E ρ' h2 w'/\Ext ρ h w ρ' h2 w'/\v.bd h2.n.toNat) .ret a1 w1:=by
   show Leaves P f a1.tmps _ a1.defers .returning w1
   refine hlv f a1.tmps ρ1 w1 _ _ s1 d1 ?_
   intro ρ2 w2 s2 x2
   obtain⟨e1,b1⟩:=js hY hrs s2 (f1.mono x2.len x2.agree) hvs
   rw[hvγ]at e1
   exact⟨_,e1,ρ2,rfl,s2,x1.trans x2,hvb _ b1⟩
  rcases hae with h | h <;> rw[h] <;> exact this
 cases ae with
 | normal=>exact fin (.inl rfl) hk1
 | ret=>exact fin (.inr rfl) hk1
 | exit i=>exact absurd (show (1:Nat)=0 from hk1) (by simp)
end Go.Ev
end
