import Derived.Test.YtckgidiokbofiaaGreatDoorME1
import Derived.MapKept
import Derived.Laws.IdiomRangeMap
import Derived.Deep.Quiet
import Derived.StillTail
import Derived.OrdersHeld
set_option linter.unusedSimpArgs false
set_option linter.unusedVariables false
noncomputable section
namespace Go.Ev
open Go
variable {E:Env} {P:Program}
theorem zA {α:Type} {x:Option α} {f:α->Nat} {e:Nat} (h:oc x f e=0) (he:e≠0):∃ v,x=some v/\f v=0:=by
 cases x with
 | none=>exact absurd h he
 | some v=>exact⟨v,rfl,h⟩
theorem zn {x:Bool} {a e:Nat} (h:bc x a e=0) (he:e≠0):x=true/\a=0:=by
 cases x with
 | false=>exact absurd h he
 | true=>exact⟨rfl,h⟩
theorem zd9 {o:Option O} {l:List (V × V)} (h:zc3 o=some l):∃ o0,o=some o0/\o0.live=true/\(∀ (ρ:Rho) (L:Pl) (hp:Array Obj),o0.Is E ρ L hp->∃ es:Array MapEntry,hp[L.b]? = some (.map es es.size)/\mapEx E ρ l es) /\
  ∀ n,o0.bd n->∀ p∈l,p.1.bd n/\p.2.bd n:=by
 unfold zc3 at h
 split at h
 ·rename_i l'
  rw[yG]at h
  split at h
  ·rename_i hle
   simp at h;subst h
   refine⟨_,rfl,rfl,fun ρ L hp hi=>?_,fun n hb=>hb⟩
   obtain⟨es,h1,h2,h3⟩:=hi
   refine⟨es,h1,?_,h3⟩
   have hl:l'.length<=1:=by simpa [yV] using hle
   match l',hl,h2 with
   | [],_,h2=>exact List.perm_nil.1 h2
   | [p],_,h2=>exact List.perm_singleton.1 h2
  ·simp at h
 ·rename_i l'
  simp at h;subst h
  exact⟨_,rfl,rfl,fun ρ L hp hi=>hi,fun n hb=>hb⟩
 ·simp at h
theorem zcY {ρ:Rho} {l:List (V × V)} {es:Array MapEntry} (h:mapEx E ρ l es):es.size=l.length:=by
 have:=congrArg List.length h.1
 simpa using this
theorem zwr (i:Nat):∀ (s:List Nat),memN i s=s.contains i
 | []=>rfl
 | a::r=>by
  unfold memN
  rw[yG,zwr i r]
  by_cases h:i=a
  ·subst h;simp
  ·have h2:Nat.beq i a=false:=by rw[<- Bool.not_eq_true,Nat.beq_eq];exact h
   rw[h2]
   simp[h]
theorem ztU (ρ:Rho) (seen:List Nat):∀ (els:List MapEntry) (l:List (V × V)) (i:Nat),els.map (fun e=>(e.key,e.val))=l.map (fun p=>(p.1.γ E ρ,p.2.γ E ρ))->(∀ (j:Nat) (e:MapEntry),els[j]? = some e->e.born=i+j) ->
  (els.filter (fun e=>!seen.toArray.contains e.born)).map (fun e=>(e.born,e.key,e.val))=(zbi seen l i).map (fun p=>(p.1,p.2.1.γ E ρ,p.2.2.γ E ρ))
 | [],[],i,_,_=>rfl
 | [],p::l,i,h,_=>by simp at h
 | e::els,[],i,h,_=>by simp at h
 | e::els,p::l,i,h,hb=>by
  simp only[List.map_cons,List.cons.injEq,Prod.mk.injEq]at h
  have h0:=hb 0 e rfl
  have ih:=ztU ρ seen els l (i+1) h.2 fun j x hx=>by have:=hb (j+1) x hx;omega
  have hc:seen.toArray.contains e.born=memN i seen:=by rw[zwr,List.contains_toArray,h0];rfl
  rw[List.filter_cons,hc]
  unfold zbi
  rw[yG]
  cases memN i seen with
  | true=>simpa using ih
  | false=>
   simp only[Bool.not_false,if_true,List.map_cons,Bool.false_eq_true,if_false]
   rw[h.1.1,h.1.2,h0]
   simpa using ih
theorem zz5 {w:World} {r bm:Nat} {seen:Array Nat} {es:Array MapEntry} (hr:w.heap[r]? = some (.mapIter (some bm) es.size seen es.size)) (hb:w.heap[bm]? = some (.map es es.size))
  (hborn:∀ (i:Nat) (e:MapEntry),es[i]? = some e->e.born=i) (ty:TypeId) :
  (es.toList.filter (fun e=>!seen.contains e.born)=[]/\(Instr.next (.pointer (some ⟨r,0,none⟩)) false ty).run P w=.ok (.tuple #[.bool false]) w) \/
  ∃ e∈es.toList.filter (fun e=>!seen.contains e.born),∃ w1:World,(w1=w\/w1=w.drew) /\
   (Instr.next (.pointer (some ⟨r,0,none⟩)) false ty).run P w=.ok (.tuple #[.bool true,e.key,e.val]) { w1 with heap:=w.heap.setIfInBounds r (.mapIter (some bm) es.size (seen.push e.born) es.size) }:=by
 have hold:∀ x∈es.toList,x.born<es.size:=by
  intro x hx
  obtain⟨i,hi,rfl⟩:=List.getElem_of_mem hx
  have h1:=hborn i es[i] (by simp)
  have:i<es.size:=by simpa using hi
  simp only[Array.getElem_toList]
  omega
 simp only[Instr.next,getObj,Sem.run_bind,Sem.run,hr,hb,Result.andThen,next_test_false seen es es.size es.size hold (Nat.le_refl _),Bool.false_eq_true,if_false]
 have hL:(Array.filter (fun e=>!seen.contains e.born) es).toList=es.toList.filter (fun e=>!seen.contains e.born):=Array.toList_filter
 rw[<- hL]
 have hmem:∀ x∈(Array.filter (fun e=>!seen.contains e.born) es).toList,x.born<es.size:=fun x hx=>hold x (by simp at hx ⊢;exact hx.1)
 generalize Array.filter (fun e=>!seen.contains e.born) es=L at hmem ⊢
 have e1:L.filter (fun x=>decide (x.born<es.size))=L:=Array.filter_eq_self.2 (fun x hx=>by simpa using hmem x (by simpa using hx))
 have e2:L.filter (fun x=>decide (x.born>=es.size))=#[]:=by
  rw[Array.filter_eq_empty_iff]
  intro x hx
  have:=hmem x (by simpa using hx)
  simp
  omega
 simp only[e1,e2,Array.append_empty]
 by_cases h0:L.size=0
 ·left
  have:L=#[]:=Array.eq_empty_of_size_eq_zero h0
  subst this
  refine⟨rfl,?_⟩
  simp[choose,Sem.run,Question.forced]
 ·right
  have hne:L.isEmpty=false:=by simp[Array.isEmpty,h0]
  simp only[hne,Bool.false_eq_true,if_false,Array.empty_append,Array.size_map]
  have hch:∃ (j:Nat) (w1:World),j<L.size/\(w1=w\/w1=w.drew)/\(choose (Question.mapNext L.size)).run P w=.ok j w1:=by
   by_cases hf:L.size<=1
   ·exact⟨0,w,by omega,.inl rfl,by simp[choose,Sem.run,Question.forced,hf]⟩
   ·exact⟨_,w.drew,Nat.mod_lt _ (by omega),.inr rfl,by
     simp only[choose,Sem.run,Question.forced,decide_eq_true_eq,hf,if_false,Question.cut]
     rfl⟩
  obtain⟨j,w1,hj,hw,hrun⟩:=hch
  have hh:w1.heap=w.heap:=by rcases hw with rfl | rfl <;> rfl
  refine⟨L[j],by simp,w1,hw,?_⟩
  simp only[hrun,Array.getElem?_map,Array.getElem?_eq_getElem hj,Option.map_some,Sem.run_bind,setObj,Sem.run,hh,hr,Result.andThen]
  rfl
theorem zwN:∀ (els:List MapEntry) (i k:Nat),(∀ (j:Nat) (e:MapEntry),els[j]? = some e->e.born=i+j)->els.find? (fun e=>e.born == i+k)=els[k]?
 | [],i,k,_=>by simp
 | e::els,i,k,hb=>by
  have h0:=hb 0 e rfl
  rw[List.find?_cons]
  cases k with
  | zero=>
   have:(e.born == i+0)=true:=by simp;omega
   rw[this];rfl
  | succ k=>
   have:(e.born == i+(k+1))=false:=by simp;omega
   rw[this]
   have ih:=zwN els (i+1) k fun j x hx=>by have:=hb (j+1) x hx;omega
   rw[show i+(k+1)=i+1+k from by omega]
   simpa using ih
theorem zx5 {w:World} {r bm n j:Nat} {seen:Array Nat} {es:Array MapEntry} {e:MapEntry} (hr:w.heap[r]? = some (.mapIter (some bm) n seen es.size)) (hb:w.heap[bm]? = some (.map es es.size))
  (hborn:∀ (i:Nat) (e:MapEntry),es[i]? = some e->e.born=i) (hs:seen.back? = some j) (he:es[j]? = some e) :
  (Instr.entry (.pointer (some ⟨r,0,none⟩))).run P w=.ok (.tuple #[e.key,e.val]) w:=by
 have hf:es.find? (fun x=>x.born == j)=some e:=by
  have:=zwN es.toList 0 j fun i x hx=>by have:=hborn i x (by simpa using hx);omega
  rw[Nat.zero_add]at this
  rw[<- Array.find?_toList,this]
  simpa using he
 simp[Instr.entry,getObj,Sem.run_bind,Sem.run,hr,hb,Result.andThen,hs,hf]
theorem ztW:∀ (l:List Nat),zww l=l.getLast?
 | []=>rfl
 | [a]=>rfl
 | a::b::r=>by
  show zww (b::r)=_
  rw[ztW (b::r)]
  simp
theorem zeP {h:H} {v:Option V} {f:Ev.P->Ev.P->List (V × V)->List Nat->Nat} {z e:Nat} (hk:itOf h v f z e=0) (he:e≠0) :
  ∃ id s,v=some (.ptr id 0)/\((∃ a b c,h.t.get id=some (.x (.it none a b c))/\z=0) \/
   ∃ m l,h.t.get id=some (.x (.it (some m) (len l) s (len l)))/\zc3 (h.t.get m)=some l/\f id m l s=0):=by
 unfold itOf at hk
 split at hk
 ·rename_i id
  rw[zJ]at hk
  split at hk
  ·rename_i a b c ho
   exact⟨id,[],rfl,.inl ⟨a,b,c,ho,hk⟩⟩
  ·rename_i m since seen last ho
   obtain⟨l,h1,hk2⟩:=zA hk he
   obtain⟨h2,hk3⟩:=zn hk2 he
   rw[zJ]at h1
   simp only[Bool.and_eq_true,Nat.beq_eq]at h2
   obtain⟨h4,h5⟩:=h2
   rw[h4,h5]at ho
   exact⟨id,seen,rfl,.inr ⟨m,l,ho,h1,hk3⟩⟩
  ·exact absurd hk he
 ·exact absurd hk he
theorem zmt {ρ:Rho} {h:H} {w:World} (hs:Sat E ρ h w) {id m:Ev.P} {l:List (V × V)} {s:List Nat} (ho:h.t.get id=some (.x (.it (some m) (len l) s (len l)))) (hx:zc3 (h.t.get m)=some l)
  (hm:zaI h id=true) (ty:TypeId) :
  (zbi s l 0=[]/\(Instr.next (.pointer (some ⟨(ρ id).b,0,none⟩)) false ty).run P w=.ok (.tuple #[.bool false]) w) \/
  ∃ p∈zbi s l 0,∃ w',(Instr.next (.pointer (some ⟨(ρ id).b,0,none⟩)) false ty).run P w=.ok (V.γ E ρ (.tup [.b true,p.2.1,p.2.2])) w' /\
   Sat E ρ (h.put id (.x (.it (some m) (len l) (app s [p.1]) (len l)))) w'/\Ext ρ h w ρ (h.put id (.x (.it (some m) (len l) (app s [p.1]) (len l)))) w'/\(V.tup [.b true,p.2.1,p.2.2]).bd h.n.toNat:=by
 obtain⟨o0,hg,hlive,his,hbd⟩:=zd9 hx
 obtain⟨es,e1,e2⟩:=his ρ _ _ (hs.obj m _ hg)
 have hsz:=zcY e2
 have ho1:w.heap[(ρ id).b]? = some (.mapIter (some (ρ m).b) (len l) s.toArray (len l)):=hs.obj id _ ho
 rw[yV,<- hsz]at ho1
 have hL:=ztU (E:=E) ρ s es.toList l 0 e2.1 fun j x hx=>by have:=e2.2 j x (by simpa using hx);omega
 rcases zz5 (P:=P) ho1 e1 e2.2 ty with ⟨h0,hrun⟩ | ⟨e,he,w1,hw,hrun⟩
 ·rw[h0]at hL
  exact .inl ⟨List.map_eq_nil_iff.1 hL.symm,hrun⟩
 ·right
  have hmem:=List.mem_map_of_mem (f:=fun e:MapEntry=>(e.born,e.key,e.val)) he
  rw[hL]at hmem
  obtain⟨p,hp,hpe⟩:=List.mem_map.1 hmem
  simp only[Prod.mk.injEq]at hpe
  obtain⟨p1,p2,p3⟩:=hpe
  have hin:∀ (seen:List Nat) (l:List (V × V)) (i:Nat) (p:Nat × V × V),p∈zbi seen l i->p.2∈l:=by
   intro seen l
   induction l with
   | nil=>intro i p hp;simp[zbi]at hp
   | cons q r ih=>
    intro i p hp
    unfold zbi at hp
    rw[yG]at hp
    split at hp
    ·exact List.mem_cons_of_mem _ (ih _ _ hp)
    ·rcases List.mem_cons.1 hp with rfl | hp
     ·exact List.mem_cons_self ..
     ·exact List.mem_cons_of_mem _ (ih _ _ hp)
  have hpb:=hbd _ (hs.bd m _ hg).2 p.2 (hin _ _ _ _ hp)
  have hlt:=yv ho1
  obtain⟨q1,q2⟩:=zdk E (w':={ w1 with heap:=w.heap.setIfInBounds (ρ id).b (.mapIter (some (ρ m).b) es.size (s.toArray.push e.born) es.size) }) hs ho rfl (yD h id hm)
   (.x (.it (some m) (len l) (app s [p.1]) (len l))) (fun q hq=>by cases hq;exact(hs.bd m _ hg).1)
   (by
    show (w.heap.setIfInBounds (ρ id).b _)[(ρ id).b]? = _
    rw[Array.getElem?_setIfInBounds,if_pos rfl,if_pos hlt,yV,<- hsz,p1,zaf]
    simp)
   (fun b hb=>by
    show (w.heap.setIfInBounds (ρ id).b _)[b]? = _
    rw[Array.getElem?_setIfInBounds,if_neg (fun e=>hb e.symm)])
   (by simp) (by rcases hw with rfl | rfl <;> rfl) (by rcases hw with rfl | rfl <;> rfl) (by rcases hw with rfl | rfl <;> rfl)
  refine⟨p,hp,_,?_,q1,q2,⟨trivial,hpb.1,hpb.2,trivial⟩⟩
  rw[hrun,<- p2,<- p3]
  simp[V.γ,γL]
end Go.Ev
end
set_option linter.unusedSimpArgs false
set_option linter.unusedVariables false
noncomputable section
namespace Go.Ev
open Go
variable {E:Env} {P:Program} {w:World}
theorem oEq_eq {a b:BinOp} (h:oEq a b=true):a=b:=by
 cases a <;> cases b <;> first | rfl | (simp[oEq,oNum]at h)
theorem SE.beq_eq:∀ {a b:SE},SE.beq a b=true->a=b
 | .v i,b,h=>by cases b <;> simp[SE.beq]at h;subst h;rfl
 | .lit n,b,h=>by cases b <;> simp[SE.beq,jb]at h;subst h;rfl
 | .op o k x y,b,h=>by
  cases b <;> simp[SE.beq]at h
  obtain⟨⟨⟨h1,h2⟩,h3⟩,h4⟩:=h
  rw[oEq_eq h1,yn h2,SE.beq_eq h3,SE.beq_eq h4]
 | .cv k x,b,h=>by
  cases b <;> simp[SE.beq]at h
  obtain⟨h1,h2⟩:=h
  rw[yn h1,SE.beq_eq h2]
 | .mm mx x y,b,h=>by
  cases b <;> cases mx <;> (try (simp[SE.beq]at h;done)) <;> (rename_i mx' a' b';cases mx' <;> simp[SE.beq]at h;rw[SE.beq_eq h.1,SE.beq_eq h.2])
theorem yT {f:Od->IOp} {x:Operand} {i:IOp} (h:zcZ f x=some i):∃ x',cOd x=some x'/\i=f x':=by
 unfold zcZ at h
 split at h
 ·rename_i x' hx;simp at h;exact⟨x',hx,h.symm⟩
 ·simp at h
theorem yB {f:Od->Od->IOp} {x y:Operand} {i:IOp} (h:zex f x y=some i):∃ x' y',cOd x=some x'/\cOd y=some y'/\i=f x' y':=by
 unfold zex at h
 split at h
 ·rename_i x' y' hx hy;simp at h;exact⟨x',y',hx,hy,h.symm⟩
 ·simp at h
theorem zbC {x:Option V} {f:Ev.P->Nat->Nat} {e:Nat} (h:zak x f e=0) (he:e≠0):∃ id off,x=some (.ptr id off)/\f id off=0:=by
 unfold zak at h
 split at h
 ·exact⟨_,_,rfl,h⟩
 ·exact absurd h he
theorem zjd {x:Option V} {f:Ev.P->Nat->Nat} {e:Nat} (h:zak x f e=0):(∃ id off,x=some (.ptr id off)/\f id off=0)\/e=0:=by
 unfold zak at h
 split at h
 ·exact .inl ⟨_,_,rfl,h⟩
 ·exact .inr h
theorem vSl_or {x:Option V} {f:Ev.P->Nat->Nat->Nat} {e:Nat} (h:vSl x f e=0):(∃ v id off n,x=some v/\f id off n=0/\(∀ (E:Env) (ρ:Rho),∃ o' c,v.γ E ρ=.slice (some ⟨(ρ id).b,o',none⟩) n c/\(n≠0->o'=off))/\(∀ m,v.bd m->id.toNat<m))\/e=0:=by
 unfold vSl at h
 split at h
 ·exact .inl ⟨_,_,_,_,rfl,h,fun E ρ=>⟨_,_,rfl,fun _=>rfl⟩,fun m hm=>hm⟩
 ·exact .inl ⟨_,_,_,_,rfl,h,fun E ρ=>⟨_,_,rfl,fun _=>rfl⟩,fun m hm=>hm⟩
 ·exact .inl ⟨_,_,_,_,rfl,h,fun E ρ=>⟨_,_,rfl,fun hn=>if_neg hn⟩,fun m hm=>hm⟩
 ·exact .inr h
theorem vFs_ok {x:Option V} {f:Ev.P->Nat->Nat} {e:Nat} (h:vFs x f e=0) (he:e≠0):∃ id q,x=some (.fs id q)/\f id q=0:=by
 unfold vFs at h
 split at h
 ·exact⟨_,_,rfl,h⟩
 ·exact absurd h he
theorem zuL {x:Option V} {f:Ev.P->Nat->Nat->Nat} {e:Nat} (h:vFp x f e=0) (he:e≠0):∃ id q o,x=some (.fp id q o)/\f id q o=0:=by
 unfold vFp at h
 split at h
 ·exact⟨_,_,_,rfl,h⟩
 ·exact absurd h he
theorem vSi_ok {x:Option V} {f:SE->Nat} {e:Nat} (h:vSi x f e=0) (he:e≠0):∃ kk s,x=some (.si kk s)/\f s=0:=by
 unfold vSi at h
 split at h
 ·exact⟨_,_,rfl,h⟩
 ·exact absurd h he
theorem zeN {o:Option O} {q:Nat} {f:Nat->SE->SE->List V->Nat} {e:Nat} (h:oRow o q f e=0) (he:e≠0):∃ z N I l,o=some (.row q z N I l)/\f z N I l=0:=by
 unfold oRow at h
 split at h
 ·obtain⟨h1,h2⟩:=zn h he
  have h1:=Nat.eq_of_beq_eq_true h1
  subst h1
  exact⟨_,_,_,_,rfl,h2⟩
 ·exact absurd h he
theorem ztY {e:Nat} {f:V->List V->Nat} {l:List V} (h:jM e f l=0) (he:e≠0):∃ v r,l=v::r/\f v r=0:=by
 cases l with
 | nil=>exact absurd h he
 | cons v r=>exact⟨v,r,rfl,h⟩
theorem ldF_ok {x:Od} {fr:Fr} {h:H} {k:KV} {e:Nat} (hr:ldF x fr h k e=0) (he:e≠0):∃ id q o z N I v l,od x fr=some (.fp id q o)/\h.t.get id=some (.row q z N I l)/\l[o]? = some v/\k v h=0:=by
 obtain⟨id,q,o,h1,hr1⟩:=zuL hr he
 obtain⟨z,N,I,l,h2,hr2⟩:=zeN hr1 he
 obtain⟨v,h3,hr3⟩:=zA hr2 he
 rw[zJ]at h2
 rw[zX]at h3
 exact⟨id,q,o,z,N,I,v,l,h1,h2,h3,hr3⟩
theorem ldnF_ok {n:Nat} {x:Od} {fr:Fr} {h:H} {k:KV} {e:Nat} (hr:ldnF n x fr h k e=0) (he:e≠0):∃ id q N I l,od x fr=some (.fp id q 0)/\h.t.get id=some (.row q n N I l)/\l≠[]/\1<=n/\k (.agg l) h=0:=by
 obtain⟨id,q,o,h1,hr1⟩:=zuL hr he
 obtain⟨z,N,I,l,h2,hr2⟩:=zeN hr1 he
 obtain⟨h3,hr3⟩:=zn hr2 he
 obtain⟨v,r,rfl,hr4⟩:=ztY hr3 he
 simp only[Bool.and_eq_true,Nat.beq_eq,Nat.ble_eq]at h3
 have e1:=h3.1.1
 subst e1
 have e2:=h3.2
 subst e2
 rw[zJ]at h2
 exact⟨id,q,N,I,v::r,h1,h2,by simp,h3.1.2,hr4⟩
theorem ixF_ok {esz:Nat} {x i:Od} {fr:Fr} {h:H} {k:KV} {e:Nat} (hr:ixF esz x i fr h k e=0) (he:e≠0):∃ id q N I l kk,od x fr=some (.fs id q)/\od i fr=some (.si kk I)/\h.t.get id=some (.row q esz N I l)/\l≠[]/\k (.fp id q 0) h=0:=by
 obtain⟨id,q,h1,hr1⟩:=vFs_ok hr he
 obtain⟨kk,s,h5,hr2⟩:=vSi_ok hr1 he
 obtain⟨z,N,I,l,h2,hr3⟩:=zeN hr2 he
 obtain⟨h3,hr4⟩:=zn hr3 he
 obtain⟨v,r,rfl,hr5⟩:=ztY hr4 he
 simp only[Bool.and_eq_true,Nat.beq_eq]at h3
 have e1:=h3.1
 have e2:=SE.beq_eq h3.2
 subst e1
 subst e2
 rw[zJ]at h2
 exact⟨id,q,N,_,_,kk,h1,h5,h2,by simp,hr5⟩
theorem zvU {x:Option V} {f:List V->Nat} {e:Nat} (h:vAgg x f e=0) (he:e≠0):∃ l,x=some (.agg l)/\f l=0:=by
 unfold vAgg at h
 split at h
 ·exact⟨_,rfl,h⟩
 ·exact absurd h he
theorem vTup_ok {x:Option V} {f:List V->Nat} {e:Nat} (h:vTup x f e=0) (he:e≠0):∃ l,x=some (.tup l)/\f l=0:=by
 unfold vTup at h
 split at h
 ·exact⟨_,rfl,h⟩
 ·exact absurd h he
theorem zje {x:Option V} {f:Int->Nat} {e:Nat} (h:vLit x f e=0) (he:e≠0):∃ k n,x=some (.i k n)/\f n=0:=by
 unfold vLit at h
 split at h
 ·exact⟨_,_,rfl,h⟩
 ·exact absurd h he
theorem vSl_ok {x:Option V} {f:Ev.P->Nat->Nat->Nat} {e:Nat} (h:vSl x f e=0) (he:e≠0):∃ v id off n,x=some v/\f id off n=0/\(∀ (E:Env) (ρ:Rho),∃ o' c,v.γ E ρ=.slice (some ⟨(ρ id).b,o',none⟩) n c/\(n≠0->o'=off))/\(∀ m,v.bd m->id.toNat<m):=by
 unfold vSl at h
 split at h
 ·exact⟨_,_,_,_,rfl,h,fun E ρ=>⟨_,_,rfl,fun _=>rfl⟩,fun m hm=>hm⟩
 ·exact⟨_,_,_,_,rfl,h,fun E ρ=>⟨_,_,rfl,fun _=>rfl⟩,fun m hm=>hm⟩
 ·exact⟨_,_,_,_,rfl,h,fun E ρ=>⟨_,_,rfl,fun hn=>if_neg hn⟩,fun m hm=>hm⟩
 ·exact absurd h he
theorem zvq {k:Int} {n m:Nat} (h:inI k n=some m):k=(m:Int)/\m<n:=by
 cases k with
 | ofNat a=>
  have h:bc (Nat.blt a n) (some a) none=some m:=h
  rw[yG]at h
  split at h
  ·rename_i hlt;simp at h;subst h;exact⟨rfl,by simpa using hlt⟩
  ·simp at h
 | negSucc a=>cases h
theorem zwF {k:Int} {n m:Nat} (h:inI' k n=some m):k=(m:Int)/\m<=n:=by
 cases k with
 | ofNat a=>
  have h:bc (Nat.ble a n) (some a) none=some m:=h
  rw[yG]at h
  split at h
  ·rename_i hlt;simp at h;subst h;exact⟨rfl,by simpa using hlt⟩
  ·simp at h
 | negSucc a=>cases h
theorem zue {op:BinOp} {t:TypeId} {x y:Operand} {a b:Value} (h:(∀ l,a≠.agg l)\/P.eqGuardType P.depth t=false) (hn:a≠.nilIface):(eqGuard op t x y a b).run P w=.ok () w:=by
 rcases h with h | h
 ·cases op <;> simp[eqGuard] <;> (cases a <;> simp at h hn ⊢)
 ·cases op <;> simp[eqGuard] <;> (cases a <;> simp at hn ⊢) <;> (cases b <;> simp[run_program,h])
theorem γ_not (ρ:Rho) (v:V):v.γ E ρ≠.nilIface:=by cases v <;> simp[V.γ]
theorem zym {Y:Ty} (hY:TyOk P Y) {t:TypeId} {q:QK} (hq:qkOf Y t=some q) {o:BinOp} {x y v:V} (h:binV o q x y=some v) (ρ:Rho):(∀ l,x.γ E ρ≠.agg l)\/P.eqGuardType P.depth t=false:=by
 by_cases hx:∀ l,x≠.agg l
 ·left
  intro l
  cases x <;> simp[V.γ]at hx ⊢
 ·have:∃ l,x=.agg l:=by
   cases x <;> simp at hx ⊢
  obtain⟨l,rfl⟩:=this
  right
  have hE:∀ o,zbV o q (.agg l) y=some v->P.eqGuardType P.depth t=false:=by
   intro o h
   unfold qkOf at hq
   split at hq
   ·simp at hq;subst hq
    simp[zbV,zgc,toE]at h
   ·simp at hq;subst hq
    cases o <;> simp[zbV,eqC,eqO]at h
   ·simp at hq;subst hq
    simp[zbV]at h
   ·simp at hq;subst hq
    simp[zbV]at h
   ·split at hq
    ·simp at hq;subst hq
     simp[zbV]at h
    ·simp at hq
   ·simp at hq;subst hq
    simp[zbV]at h
   all_goals first
    | (simp at hq;done)
    | (split at hq
       ·rename_i l hl;exact(hY.eq t l hl).1
       ·simp at hq)
  cases o
  case eql=>exact hE .eql h
  case neq=>exact hE .neq h
  all_goals
   exfalso
   simp[binV,BinOp.go,bAr,bDv,bSh,bCm,zbu,bSym,bDvS,bShS,zgc,toE]at h
theorem zwk {l:List V} {off sz:Nat} {g:Bool} {v:V} {t:TypeId} (hty:zaR P t=true) (h1:yb P t=sz) (h2:zar P t=g) (h:part l off sz g=some v) (ρ:Rho) :
  (Go.part t (γL E ρ l).toArray off).run P w=.ok (v.γ E ρ) w/\(∀ n,bdL n l->v.bd n):=by
 rw[<- h1,<- h2]at h
 exact zbw (w:=w) hty h
theorem zvk {o:Option V} {i:Option Int} (h:zb3 o=some i) (ρ:Rho):(o=none/\i=none)\/∃ k n,o=some (.i k n)/\i=some n:=by
 cases o with
 | none=>simp[zb3]at h;exact .inl ⟨rfl,h.symm⟩
 | some v=>
  cases v <;> simp[zb3]at h
  rename_i k n
  exact .inr ⟨k,n,rfl,h.symm⟩
theorem zi7 {n c l r m:Nat} {lo hi mx:Option Int} (h:zeg n c lo hi mx=some (l,r,m)):bndM c mx=some m/\bndH n c m hi mx=some r/\bndL r lo=some l:=by
 unfold zeg at h
 rw[zbZ]at h
 split at h
 ·rename_i m' h1
  rw[zbZ]at h
  split at h
  ·rename_i r' h2
   rw[zbZ]at h
   split at h
   ·rename_i l' h3
    simp at h
    obtain⟨rfl,rfl,rfl⟩:=h
    exact⟨h1,h2,h3⟩
   ·simp at h
  ·simp at h
 ·simp at h
theorem zyl {n c r:Nat} (h:r<=c):zeg n c none (some (.ofNat r)) none=some (0,r,c):=by
 have hb:Nat.ble r c=true:=by simpa using h
 show oc (bc (Nat.ble r c) (some r) none) (fun h=>oc (bndL h none) (fun l=>some (l,h,c)) none) none=_
 rw[hb];rfl
theorem zmd {ρ:Rho} {h:H} (hs:Sat E ρ h w) {id:Ev.P} {m:Nat} (hc:cntV (h.t.get id)=some m):m<=(ρ id).c:=by
 unfold cntV at hc
 split at hc
 ·rename_i ho
  simp at hc;subst hc
  obtain⟨_,_,_,hm,_⟩:=hs.obj _ _ ho
  exact hm
 ·rename_i ho
  simp at hc;subst hc
  obtain⟨_,_,_,_,hm,_⟩:=hs.obj _ _ ho
  exact hm
 ·simp at hc
theorem zBw {n c l r:Nat} (h1:l<=r) (h2:r<=c):zeg n c (some (.ofNat l)) (some (.ofNat r)) none=some (l,r,c):=by
 have hb:Nat.ble r c=true:=by simpa using h2
 have hb1:Nat.ble l r=true:=by simpa using h1
 show oc (bc (Nat.ble r c) (some r) none) (fun h=>oc (bc (Nat.ble l h) (some l) none) (fun l=>some (l,h,c)) none) none=_
 rw[hb]
 show oc (bc (Nat.ble l r) (some l) none) (fun l=>some (l,r,c)) none=_
 rw[hb1];rfl
theorem zAO {id:Ev.P} {n:Nat} {lo hi mx:Option Int} {h:H} {k:KV} {e:Nat} (hr:zt5 id n lo hi mx h k e=0) :
  (∃ r m,lo=none/\hi=some (.ofNat r)/\mx=none/\cntV (h.t.get id)=some m/\r<=n/\n<=m/\k (.vec id r) h=0)\/e=0:=by
 unfold zt5 at hr
 split at hr
 ·rename_i r m ho
  rw[zJ]at ho
  rw[yG]at hr
  split at hr
  ·rename_i hb
   simp only[Bool.and_eq_true,Nat.ble_eq]at hb
   exact .inl ⟨r,m,rfl,rfl,rfl,ho,hb.1,hb.2,hr⟩
  ·exact .inr hr
 ·exact .inr hr
theorem zyk {n c l:Nat} (h1:l<=n) (h2:n<=c):zeg n c (some (.ofNat l)) none none=some (l,n,c):=by
 have hb:Nat.ble l n=true:=by simpa using h1
 show oc (bc (Nat.ble l n) (some l) none) (fun l=>some (l,n,c)) none=_
 rw[hb];rfl
theorem zbA {lo hi mx:Option V} {li hi' mi:Option Int} {n c l r m:Nat} (h1:zb3 lo=some li) (h2:zb3 hi=some hi') (h3:zb3 mx=some mi) (hb:zeg n c li hi' mi=some (l,r,m)) (b:Bool) (ρ:Rho) :
  (Instr.sliceBounds b n c (lo.map (V.γ E ρ)) (hi.map (V.γ E ρ)) (mx.map (V.γ E ρ))).run P w=.ok (l,r,m) w:=by
 have bd:∀ {k:IntKind} {i:Int} {y j:Nat} {code:BoundsCode},inI' i y=some j->(Instr.sliceBound (.int k i) y code).run P w=.ok j w:=by
  intro k i y j code h
  obtain⟨rfl,hle⟩:=zwF h
  simp[Instr.sliceBound,asIntOf,hle]
 obtain⟨e1,e2,e3⟩:=zi7 hb
 rcases zvk h1 ρ with ⟨rfl,rfl⟩ | ⟨k1,n1,rfl,rfl⟩ <;> rcases zvk h2 ρ with ⟨rfl,rfl⟩ | ⟨k2,n2,rfl,rfl⟩ <;> rcases zvk h3 ρ with ⟨rfl,rfl⟩ | ⟨k3,n3,rfl,rfl⟩ <;> simp only[bndM,bndH,bndL,Option.some.injEq]at e1 e2 e3 <;> first
  | (cases e2;done)
  | (subst e1;subst e2;subst e3;simp[Instr.sliceBounds,V.γ,bd])
  | (subst e1;subst e2;simp[Instr.sliceBounds,V.γ,bd e3])
  | (subst e1;subst e3;simp[Instr.sliceBounds,V.γ,bd e2])
  | (subst e1;simp[Instr.sliceBounds,V.γ,bd e2,bd e3])
  | (subst e3;simp[Instr.sliceBounds,V.γ,bd e1,bd e2])
  | (simp[Instr.sliceBounds,V.γ,bd e1,bd e2,bd e3])
theorem zyj {li hi mi:Option Int} {l r m:Nat} (hb:zeg 0 0 li hi mi=some (l,r,m)):l=0/\r=0/\m=0:=by
 have key2:∀ {i:Int} {j y:Nat},inI' i y=some j->j<=y:=fun h=>(zwF h).2
 obtain⟨e1,e2,e3⟩:=zi7 hb
 have h1:m=0:=by
  cases mi with
  | none=>simpa [bndM] using e1.symm
  | some v=>have:=key2 e1;omega
 subst h1
 have h2:r=0:=by
  cases hi <;> cases mi <;> simp only[bndH]at e2
  ·simpa using e2.symm
  ·cases e2
  ·have:=key2 e2;omega
  ·have:=key2 e2;omega
 subst h2
 refine⟨?_,rfl,rfl⟩
 cases li with
 | none=>simpa [bndL] using e3.symm
 | some v=>have:=key2 e3;omega
set_option maxHeartbeats 1000000 in
theorem zeF {o:Option O} {f:List (V × V)->Nat} {e:Nat} (h:zdP o f e=0) (he:e≠0):∃ l,o=some (.map l)/\f l=0:=by
 unfold zdP at h
 split at h
 ·exact⟨_,rfl,h⟩
 ·exact absurd h he
theorem lit_eq:∀ {l:List EK} {a b:List V},y7 l a=true->y7 l b=true->yZ a b=true->a=b
 | [],a,b,ha,hb,h=>by
  cases a <;> cases b <;> simp[y7]at ha hb
  rfl
 | .bool::l,a,b,ha,hb,h=>by cases a <;> simp[y7]at ha
 | .int k::l,a,b,ha,hb,h=>by
  cases a with
  | nil=>simp[y7]at ha
  | cons x a=>
   cases b with
   | nil=>simp[y7]at hb
   | cons y b=>
    cases x <;> simp only[y7]at ha <;> first | (simp at ha;done) | skip
    cases y <;> simp only[y7]at hb <;> first | (simp at hb;done) | skip
    simp only[Bool.and_eq_true]at ha hb
    simp only[yZ,V.beq,Bool.and_eq_true]at h
    have h2:=h.1.2
    rw[jb]at h2
    rw[yn h.1.1,of_decide_eq_true h2,lit_eq ha.2 hb.2 h.2]
theorem key_eq {kk:KK} {a b:V} (ha:ja kk a=true) (hb:ja kk b=true) (h:V.beq a b=true):a=b:=by
 cases kk with
 | one k=>
  cases a <;> simp only[ja]at ha <;> first | (simp at ha;done) | skip
  cases b <;> simp only[ja]at hb <;> first | (simp at hb;done) | skip
  simp only[V.beq,Bool.and_eq_true]at h
  have h2:=h.2
  rw[jb]at h2
  rw[yn h.1,of_decide_eq_true h2]
 | agg l=>
  cases a <;> simp only[ja]at ha <;> first | (simp at ha;done) | skip
  cases b <;> simp only[ja]at hb <;> first | (simp at hb;done) | skip
  simp only[V.beq]at h
  rw[lit_eq ha hb h]
theorem zcw {r z:Option (Option (Nat × V))} {x:Option (Nat × V)} (h:zbK r z=some x):r=some none/\z=some x:=by
 unfold zbK at h
 split at h
 ·exact⟨rfl,h⟩
 ·cases h
theorem za6 {kk:KK} {key a c:V} {r:List (V × V)} {i:Nat} (h1:ja kk a=true):yt kk key ((a,c)::r) i=bc (V.beq key a) (zbK (yt kk key r (i+1)) (some (some (i,c)))) (yt kk key r (i+1)):=by
 show bc (ja kk a) _ none=_
 rw[h1];rfl
theorem ziW {kk:KK} {key a c:V} {r:List (V × V)} {i:Nat} {x:Option (Nat × V)} (h:yt kk key ((a,c)::r) i=some x):ja kk a=true:=by
 have h:bc (ja kk a) _ none=some x:=h
 cases h1:ja kk a with
 | false=>rw[h1]at h;cases h
 | true=>rfl
theorem za5 {kk:KK} {key:V}:∀ {l:List (V × V)} {i:Nat},yt kk key l i=some none->∀ p∈l,ja kk p.1=true/\V.beq key p.1=false
 | [],i,h,p,hp=>by cases hp
 | (a,c)::r,i,h,p,hp=>by
  have h1:=ziW h
  rw[za6 h1]at h
  cases h2:V.beq key a with
  | true=>
   rw[h2]at h
   exact absurd (zcw h).2 (by simp)
  | false=>
   rw[h2]at h
   rcases List.mem_cons.1 hp with rfl | hp
   ·exact⟨h1,h2⟩
   ·exact za5 (show yt kk key r (i+1)=some none from h) p hp
theorem zbk {kk:KK} {key:V}:∀ {l:List (V × V)} {i:Nat},(∀ p∈l,ja kk p.1=true/\V.beq key p.1=false)->yt kk key l i=some none
 | [],i,h=>rfl
 | (a,c)::r,i,h=>by
  obtain⟨h1,h2⟩:=h (a,c) (by simp)
  rw[za6 h1,h2]
  exact zbk (fun p hp=>h p (by simp[hp]))
theorem zfO {kk:KK} {key:V}:∀ {l:List (V × V)} {i j:Nat} {b:V},yt kk key l i=some (some (j,b)) ->
  ∃ l1 a l2,l=l1 ++ (a,b)::l2/\j=i+l1.length/\V.beq key a=true/\ja kk a=true/\∀ p∈l1 ++ l2,ja kk p.1=true/\V.beq key p.1=false
 | [],i,j,b,h=>by cases h
 | (a,c)::r,i,j,b,h=>by
  have h1:=ziW h
  rw[za6 h1]at h
  cases h2:V.beq key a with
  | true=>
   rw[h2]at h
   obtain⟨h3,h4⟩:=zcw h
   cases h4
   exact⟨[],a,r,rfl,rfl,h2,h1,za5 h3⟩
  | false=>
   rw[h2]at h
   obtain⟨l1,a',l2,rfl,rfl,g3,g4,g5⟩:=zfO (show yt kk key r (i+1)=some (some (j,b)) from h)
   refine⟨(a,c)::l1,a',l2,rfl,by simp;omega,g3,g4,fun p hp=>?_⟩
   rcases List.mem_cons.1 hp with rfl | hp
   ·exact⟨h1,h2⟩
   ·exact g5 p hp
theorem zer {kk:KK} {key a b:V} {l2:List (V × V)} (g3:V.beq key a=true) (g4:ja kk a=true):∀ {l1:List (V × V)} {i:Nat},(∀ p∈l1 ++ l2,ja kk p.1=true/\V.beq key p.1=false)->yt kk key (l1 ++ (a,b)::l2) i=some (some (i+l1.length,b))
 | [],i,h=>by
  show yt kk key ((a,b)::l2) i=_
  rw[za6 g4,g3]
  show zbK _ _=_
  rw[zbk (fun p hp=>h p (by simpa using hp))]
  rfl
 | (a',c)::r,i,h=>by
  obtain⟨h1,h2⟩:=h (a',c) (by simp)
  show yt kk key ((a',c)::(r ++ (a,b)::l2)) i=_
  rw[za6 h1,h2]
  have:=zer (b:=b) g3 g4 (l1:=r) (i:=i+1) (fun p hp=>h p (by simp only[List.cons_append,List.mem_cons];exact .inr hp))
  show yt kk key (r ++ (a,b)::l2) (i+1)=_
  rw[this]
  simp;omega
theorem zcu {α β:Type} {f:α->β} {as bs:List β} (h:as.Perm bs):∀ l:List α,bs=l.map f->∃ l':List α,l'.Perm l/\as=l'.map f:=by
 induction h with
 | nil=>exact fun l hl=>⟨[],by rw[List.map_eq_nil_iff.1 hl.symm],rfl⟩
 | cons x _ ih=>
  intro l hl
  obtain⟨y,r,rfl,rfl,rfl⟩:=List.map_eq_cons_iff.1 hl.symm
  obtain⟨r',h1,rfl⟩:=ih r rfl
  exact⟨y::r',h1.cons y,rfl⟩
 | swap x y l0=>
  intro l hl
  obtain⟨a,r,rfl,rfl,hr⟩:=List.map_eq_cons_iff.1 hl.symm
  obtain⟨b,r,rfl,rfl,rfl⟩:=List.map_eq_cons_iff.1 hr
  exact⟨b::a::r,List.Perm.swap ..,rfl⟩
 | trans _ _ ih1 ih2=>
  intro l hl
  obtain⟨l1,h1,rfl⟩:=ih2 l hl
  obtain⟨l2,h2,rfl⟩:=ih1 l1 rfl
  exact⟨l2,h2.trans h1,rfl⟩
theorem zb1 {kk:KK} {key:V} {l l':List (V × V)} (hp:l'.Perm l) (h:yt kk key l 0=some none):yt kk key l' 0=some none:=
 zbk fun p hm=>za5 h p (hp.mem_iff.1 hm)
theorem zb0 {kk:KK} {key:V} {l l':List (V × V)} (hp:l'.Perm l) {j:Nat} {b:V} (h:yt kk key l 0=some (some (j,b))) :
  ∃ l1 a l2 m1 m2,l=l1 ++ (a,b)::l2/\j=l1.length/\l'=m1 ++ (a,b)::m2/\(m1 ++ m2).Perm (l1 ++ l2)/\V.beq key a=true/\ja kk a=true/\yt kk key l' 0=some (some (m1.length,b)):=by
 obtain⟨l1,a,l2,rfl,rfl,g3,g4,g5⟩:=zfO h
 obtain⟨m1,m2,rfl⟩:=List.append_of_mem (hp.mem_iff.2 (by simp:(a,b)∈l1 ++ (a,b)::l2))
 have h6:(m1 ++ m2).Perm (l1 ++ l2):=(List.Perm.cons_inv ((List.perm_middle.symm.trans hp).trans List.perm_middle))
 refine⟨l1,a,l2,m1,m2,rfl,by simp,rfl,h6,g3,g4,?_⟩
 have:=zer (b:=b) g3 g4 (l1:=m1) (l2:=m2) (i:=0) (fun p hm=>g5 p (h6.mem_iff.1 hm))
 simpa using this
theorem ziZ {Y:Ty} (hY:TyOk P Y) {o:Oper} {i:IOp} (hc:cOp Y o.op=some i) (hst:zN i=true) {fr:Fr} {h:H} {k:KV} {e:Nat} (hr:evI i fr h k e=0) (he:e≠0)
  {ρ:Rho} {n:Nat} {a:Act} (hn:h.n.toNat<=n) (hf:zw E ρ n fr a.tmps) (hs:Sat E ρ h w):∃ v,(execOp a.eval o).run P w=.ok (.value (v.γ E ρ)) w/\v.bd n/\k v h=0:=by
 obtain⟨dst,op,ty,pos,aft,gd⟩:=o
 simp only at hc
 cases op <;> simp only[cOp]at hc
 case move x=>
  obtain⟨x',hx,rfl⟩:=yT hc
  obtain⟨v,hv,hk⟩:=zA hr he
  obtain⟨h1,h2⟩:=zq hf hx hv
  exact⟨v,by simp[execOp,h1],h2,hk⟩
 case assign x=>
  obtain⟨x',hx,rfl⟩:=yT hc
  obtain⟨v,hv,hk⟩:=zA hr he
  obtain⟨h1,h2⟩:=zq hf hx hv
  exact⟨v,by simp[execOp,h1],h2,hk⟩
 case pick x y z=>
  split at hc
  ·rename_i x' y' z' hx hy hz
   simp at hc;subst hc
   have hr:zuh x' y' z' fr h k e=0:=hr
   unfold zuh at hr
   split at hr
   ·rename_i hb
    obtain⟨h0,_⟩:=zq hf hx hb
    obtain⟨v,hv,hk⟩:=zA hr he
    obtain⟨h1,h2⟩:=zq hf hy hv
    exact⟨v,by simp[execOp,h0,h1,V.γ,asBool],h2,hk⟩
   ·rename_i hb
    obtain⟨h0,_⟩:=zq hf hx hb
    obtain⟨v,hv,hk⟩:=zA hr he
    obtain⟨h1,h2⟩:=zq hf hz hv
    exact⟨v,by simp[execOp,h0,h1,V.γ,asBool],h2,hk⟩
   ·exact absurd hr he
  ·simp at hc
 case alloc t=>split at hc <;> simp at hc;subst hc;simp[zN,IOp.go]at hst
 case box t x=>obtain⟨x',hx,rfl⟩:=yT hc;simp[zN,IOp.go]at hst
 case build t ps=>
  split at hc
  ·rename_i fs z ht
   split at hc
   ·rename_i ps' hps
    simp at hc;subst hc
    obtain⟨l,hl,hk⟩:=zA hr he
    obtain⟨fl,hu,hfs,hfl,hty,hsz,hg⟩:=ze8 hY.ti ht
    obtain⟨x,hx,hxz⟩:=zmq hY.ti ht
    obtain⟨i,hi,hiz,_⟩:=zag (E:=E) hx ρ
    have hzb:bdL n z:=by rw[<- hxz];exact zap (bd_mono (Nat.zero_le _) _ (zav (E:=E) (w:=w) hx ρ).2)
    obtain⟨h1,h2⟩:=ziY hf fs ((fl.toList.map fun f=>(f.offset,yb P f.type)).toArray[·]?) (fun i o s g hq=>by
     rw[hfs]at hq
     obtain⟨f,hf1,hf2,hf3,_⟩:=zbP _ _ _ _ _ hq
     have hf1:fl[i]? = some f:=by simpa using hf1
     simp[hf1,hf2,hf3]) ps.toList ps' z l hps hl hzb
    refine⟨.agg l,?_,h2,hk⟩
    have hb:P.built t (ps.toList.map fun (i,x)=>(i,a.eval x))=some (γL E ρ l).toArray:=by
     have hm:=zub fl.toList hfl
     have h1':=h1
     rw[show (γL E ρ z).toArray=(x.γ E ρ).cells from by rw[jx,hxz]]at h1'
     simp only[Program.built,hi,hu,hiz,hm,h1']
    have hrun:=run_build w t (ps.map fun (i,x)=>(i,a.eval x)) (γL E ρ l).toArray (by simpa using hb)
    simp[execOp,hrun,V.γ]
   ·simp at hc
  ·rename_i m e1 s g z ht
   split at hc
   ·rename_i ps' hps
    simp at hc;subst hc
    obtain⟨l,hl,hk⟩:=zA hr he
    obtain⟨hu,htye,hse,_,hty,hsz,hg⟩:=zb5 hY.ti ht
    obtain⟨x,hx,hxz⟩:=zmr hY.ti ht
    obtain⟨i,hi,hiz,_⟩:=zag (E:=E) hx ρ
    obtain⟨ie,hie,hies⟩:=zcA htye
    have hzb:bdL n z:=by rw[<- hxz];exact zap (bd_mono (Nat.zero_le _) _ (zav (E:=E) (w:=w) hx ρ).2)
    obtain⟨h1,h2⟩:=zd8 hf s (fun i=>some (i*ie.size,ie.size)) (fun i=>by rw[hies,hse]) ps.toList ps' z l hps hl hzb
    refine⟨.agg l,?_,h2,hk⟩
    have hb:P.built t (ps.toList.map fun (i,x)=>(i,a.eval x))=some (γL E ρ l).toArray:=by
     have h1':=h1
     rw[show (γL E ρ z).toArray=(x.γ E ρ).cells from by rw[jx,hxz]]at h1'
     simp only[Program.built,hi,hu,hiz,hie,h1']
    have hrun:=run_build w t (ps.map fun (i,x)=>(i,a.eval x)) (γL E ρ l).toArray (by simpa using hb)
    simp[execOp,hrun,V.γ]
   ·simp at hc
  ·simp at hc
 case buildSlice t m ps=>
  split at hc
  ·split at hc
   ·split at hc
    ·simp at hc;subst hc;simp[zN,IOp.go]at hst
    ·simp at hc
   ·simp at hc
  ·simp at hc
 case load t x=>
  have one:is1 (Y.ti t)=true->zcZ .ld x=some i->∃ v,(execOp a.eval ⟨dst,.load t x,ty,pos,aft,gd⟩).run P w=.ok (.value (v.γ E ρ)) w/\v.bd n/\k v h=0:=by
   intro h1 hc
   obtain⟨x',hx,rfl⟩:=yT hc
   have hd:∃ d,P.underlying t=some d/\za4 d=false:=by
    cases hti:Y.ti t with
    | scal z kk=>obtain⟨d,hu,hd,_⟩:=zbF hY.ti hti;exact⟨d,hu,hd⟩
    | slc e1 s1 b1 z=>obtain⟨hu,_⟩:=zax hY.ti hti;exact⟨_,hu,rfl⟩
    | str=>rw[hti]at h1;simp[is1]at h1
    | arr=>rw[hti]at h1;simp[is1]at h1
    | none=>rw[hti]at h1;simp[is1]at h1
   obtain⟨d,hu,hd⟩:=hd
   rcases zjd hr with ⟨id,off,hp,hr⟩ | hr
   rotate_left
   ·obtain⟨id,q,o,z,N,I,v,l,hp,ho,hvl,hk⟩:=ldF_ok hr he
    obtain⟨h2,h3⟩:=zq hf hx hp
    obtain⟨r1,r2,r3,r4,r5⟩:=hs.obj id _ ho
    have hol:=(List.getElem?_eq_some_iff.1 hvl).1
    obtain⟨g1,g2,g3,g4⟩:=r5 (by intro e;rw[e]at hol;simp at hol)
    have hv:=g4 o hol
    rw[r1]at r2
    rw[hvl,Option.map_some]at hv
    refine⟨v,?_,bd_mono hn v ((yg _ l).1 (hs.bd id _ ho).2 v (List.mem_of_getElem? hvl)),hk⟩
    simp[execOp,h2,V.γ,Instr.loadAt,Instr.sureAddr,zce hu hd (b:=(E.s q).b) (o:=(E.s q).off+(E.s q).idx*(E.s q).esz+o) (v:=v.γ E ρ) (by rw[zbl r2,r3];exact hv)]
   obtain⟨oo,ho,hr⟩:=zA hr he
   obtain⟨v,hv,hk⟩:=zA hr he
   rw[zJ]at ho
   obtain⟨h2,h3⟩:=zq hf hx hp
   obtain⟨cs,tt,hb,hcell⟩:=O.block (hs.obj id oo ho) (hs.bd id oo ho).2 (zbR hv)
   obtain⟨h4,h5⟩:=hcell off v hv
   refine⟨v,?_,bd_mono hn v h5,hk⟩
   simp[execOp,h2,V.γ,Instr.loadAt,Instr.sureAddr,zce hu hd (by rw[zbl hb];exact h4)]
  have many:∀ m,zcZ (.ldn m) x=some i->zaR P t=true->zar P t=true->m=yb P t->∃ v,(execOp a.eval ⟨dst,.load t x,ty,pos,aft,gd⟩).run P w=.ok (.value (v.γ E ρ)) w/\v.bd n/\k v h=0:=by
   intro m hc hty hg hm
   obtain⟨x',hx,rfl⟩:=yT hc
   rcases zjd hr with ⟨id,off,hp,hr⟩ | hr
   rotate_left
   ·obtain⟨id,q,N,I,l,hp,ho,hl,_,hk⟩:=ldnF_ok hr he
    obtain⟨h2,h3⟩:=zq hf hx hp
    obtain⟨r1,r2,r3,r4,r5⟩:=hs.obj id _ ho
    obtain⟨g1,g2,g3,g4⟩:=r5 hl
    rw[r1]at r2
    refine⟨.agg l,?_,bd_mono hn (.agg l) (hs.bd id _ ho).2,hk⟩
    have:=zcM (w:=w) hty hg (b:=(E.s q).b) (o:=(E.s q).off+(E.s q).idx*m) (vs:=γL E ρ l) r2 (by rw[γL_length,g3,hm]) (fun j hj=>by
     rw[γL_length]at hj
     rw[g4 j hj,γL_get])
    simp[execOp,h2,V.γ,Instr.loadAt,Instr.sureAddr,r3,this]
   obtain⟨oo,ho,hr⟩:=zA hr he
   obtain⟨l,hl,hk⟩:=zA hr he
   rw[zJ]at ho
   obtain⟨h2,h3⟩:=zq hf hx hp
   obtain⟨h6,h7⟩:=ziK hl
   by_cases hm0:m=0
   ·subst hm0
    have:l=[]:=List.length_eq_zero_iff.1 h6
    subst this
    refine⟨.agg [],?_,trivial,hk⟩
    obtain⟨g1,g2⟩:=jE (w:=w) hty
    simp[execOp,h2,V.γ,γL,Instr.loadAt,Instr.sureAddr,loadVar,g2,hg,g1,<- hm,loadCells,loadCellsFrom]
   have hlive:oo.own=true:=zbR (v:=l[0]'(by omega)) (i:=off+0) (by rw[h7 0 (by omega)];simp)
   obtain⟨cs,tt,hb,hcell⟩:=O.block (hs.obj id oo ho) (hs.bd id oo ho).2 hlive
   have hall:∀ j (hj:j<l.length),cs[off+j]? = some (l[j].γ E ρ)/\l[j].bd h.n.toNat:=fun j hj=>hcell (off+j) l[j] (by rw[h7 j (by omega)];simp[hj])
   refine⟨.agg l,?_,?_,hk⟩
   ·have:=zcM (w:=w) hty hg (b:=(ρ id).b) (o:=off) (vs:=γL E ρ l) hb (by rw[γL_length,h6,hm]) (fun j hj=>by
     rw[γL_length]at hj
     rw[(hall j hj).1,γL_get];simp[hj])
    simp[execOp,h2,V.γ,Instr.loadAt,Instr.sureAddr,this]
   ·show bdL n l
    rw[yg]
    intro v hv
    obtain⟨j,hj,rfl⟩:=List.mem_iff_getElem.1 hv
    exact bd_mono hn _ (hall j hj).2
  split at hc
  ·rename_i fs z ht
   obtain⟨fl,hu,_,_,hty,hsz,hg⟩:=ze8 hY.ti ht
   exact many _ hc hty hg (by rw[yV,hsz])
  ·rename_i m e1 s1 g z ht
   obtain⟨hu,_,_,_,hty,hsz,hg⟩:=zb5 hY.ti ht
   exact many _ hc hty hg (by rw[yV,hsz])
  ·rename_i z kk ht;exact one (by rw[ht];rfl) hc
  ·rename_i e1 s1 b1 z ht;exact one (by rw[ht];rfl) hc
  ·simp at hc
 case store t x y=>
  split at hc
  ·obtain⟨x',y',_,_,rfl⟩:=yB hc;simp[zN,IOp.go]at hst
  ·simp at hc
 case nilCheck x=>
  obtain⟨x',hx,rfl⟩:=yT hc
  obtain⟨id,off,hp,hk⟩:=zbC hr he
  obtain⟨h1,h2⟩:=zq hf hx hp
  exact⟨.ptr id off,by simp[execOp,h1,V.γ],h2,hk⟩
 case binOp op t x y t2=>
  split at hc
  ·rename_i q hq
   obtain⟨x',y',hx,hy,rfl⟩:=yB hc
   obtain⟨u,hu,hr⟩:=zA hr he
   obtain⟨u2,hu2,hr⟩:=zA hr he
   obtain⟨v,hv,hk⟩:=zA hr he
   obtain⟨h1,h2⟩:=zq hf hx hu
   obtain⟨h3,h4⟩:=zq hf hy hu2
   obtain⟨h5,h6⟩:=zBy (E:=E) (w:=w) hY hq hv ρ
   have h9:=zue (P:=P) (w:=w) (op:=op) (t:=t) (x:=x) (y:=y) (b:=u2.γ E ρ) (zym (E:=E) hY hq hv ρ) (γ_not ρ u)
   exact⟨v,by simp[execOp,h1,h3,h9,h5],bd_mono (Nat.zero_le _) _ h6,hk⟩
  ·simp at hc
 case unOp op t x=>
  split at hc
  ·obtain⟨x',hx,rfl⟩:=yT hc
   have hr:eNot x' fr h k e=0:=hr
   unfold eNot at hr
   split at hr
   ·rename_i b hb
    obtain⟨h1,_⟩:=zq hf hx hb
    refine⟨_,?_,?_,hr⟩ <;> first | exact trivial | simp[execOp,h1,V.γ,Op.unary]
   ·rename_i b hb
    obtain⟨h1,_⟩:=zq hf hx hb
    refine⟨_,?_,?_,hr⟩ <;> first | exact trivial | simp[execOp,h1,V.γ,Op.unary,SB.den]
   ·exact absurd hr he
  ·obtain⟨x',hx,rfl⟩:=yT hc
   have hr:eNeg x' fr h k e=0:=hr
   unfold eNeg at hr
   split at hr
   ·rename_i b hb
    obtain⟨h1,_⟩:=zq hf hx hb
    refine⟨_,?_,?_,hr⟩ <;> first | exact trivial | simp[execOp,h1,V.γ,Op.unary,Op.intArith,fSub_eq]
   ·rename_i b hb
    obtain⟨h1,_⟩:=zq hf hx hb
    refine⟨_,?_,?_,hr⟩ <;> first | exact trivial | simp[execOp,h1,V.γ,Op.unary,Op.intArith,mkE,zmy,SE.den,arS,arI,z6]
   ·exact absurd hr he
  ·simp at hc
 case makeMap t r=>
  cases r with
  | none=>simp at hc;subst hc;simp[zN,IOp.go,zbn]at hst
  | some _=>simp at hc
 case insert t m kx x=>
  split at hc
  ·simp at hc;subst hc;simp[zN,IOp.go,zbn]at hst
  ·simp at hc
 case mapUpdate t m kx x=>
  split at hc
  ·simp at hc;subst hc;simp[zN,IOp.go,zbn]at hst
  ·simp at hc
 case sliceToArrayPointer t x=>
  split at hc
  ·rename_i n e1 esz g z x' ht hx
   simp at hc;subst hc
   obtain⟨hu,_⟩:=zb5 hY.ti ht
   have hr:eArp n x' fr h k e=0:=hr
   unfold eArp at hr
   split at hr
   ·rename_i id off m c g1
    obtain⟨hle,hr⟩:=zn hr he
    obtain⟨h1,b1⟩:=zq hf hx g1
    have hle:¬ m<n:=by have:=Nat.le_of_ble_eq_true hle;omega
    refine⟨.ptr id off,?_,b1,hr⟩
    simp[execOp,h1,V.γ,Instr.arrayAt,run_underlying hu,hle]
   ·rename_i id m g1
    obtain⟨hle,hr⟩:=zn hr he
    obtain⟨h1,b1⟩:=zq hf hx g1
    have hle:¬ m<n:=by have:=Nat.le_of_ble_eq_true hle;omega
    refine⟨.ptr id 0,?_,b1,hr⟩
    simp[execOp,h1,V.γ,Instr.arrayAt,run_underlying hu,hle]
   ·rename_i id off m g1
    obtain⟨hle,hr⟩:=zn hr he
    obtain⟨h1,b1⟩:=zq hf hx g1
    simp only[Bool.and_eq_true,Nat.ble_eq]at hle
    have hle1:¬ m<n:=by omega
    have hle2:¬ m=0:=by omega
    refine⟨.ptr id off,?_,b1,hr⟩
    simp[execOp,h1,V.γ,Instr.arrayAt,run_underlying hu,hle1,hle2]
   ·exact absurd hr he
  ·simp at hc
 case range t m=>
  split at hc
  ·simp at hc;subst hc;simp[zN,IOp.go,zbn]at hst
  ·simp at hc
 case next i b=>
  cases b with
  | true=>simp at hc
  | false=>
   simp only at hc
   split at hc
   ·simp at hc;subst hc;simp[zN,IOp.go,zbn]at hst
   ·simp at hc
 case entry i=>
  split at hc
  ·rename_i i' hi
   simp at hc;subst hc
   have hr:eEnt i' fr h k e=0:=hr
   unfold eEnt at hr
   obtain⟨id,s,hv,h1 | ⟨m,l,ho,hx,hr⟩⟩:=zeP hr he
   ·obtain⟨_,_,_,_,hz⟩:=h1;exact absurd hz he
   ·obtain⟨j,hj,hr⟩:=zA hr he
    obtain⟨p,hp,hr⟩:=zA hr he
    obtain⟨g1,_⟩:=zq hf hi hv
    obtain⟨o0,hm,hlive,his,hbd⟩:=zd9 hx
    obtain⟨es,e1,e2⟩:=his ρ _ _ (hs.obj m _ hm)
    have hn0:=zcY e2
    have ho1:w.heap[(ρ id).b]? = some (.mapIter (some (ρ m).b) (len l) s.toArray (len l)):=hs.obj id _ ho
    rw[yV,<- hn0]at ho1
    rw[zX]at hp
    have he1:=congrArg (fun x:List (Value × Value)=>x[j]?) e2.1
    simp only[List.getElem?_map,hp,Option.map_some,Option.map_eq_some_iff,Prod.mk.injEq]at he1
    obtain⟨e',h3,h4,h5⟩:=he1
    have run:=zx5 (P:=P) ho1 e1 e2.2 (by rw[List.back?_toArray,<- ztW];exact hj) (by simpa using h3)
    have hb:=hbd _ (hs.bd m _ hm).2 p (List.mem_of_getElem? hp)
    refine⟨.tup [p.1,p.2],?_,⟨bd_mono hn _ hb.1,bd_mono hn _ hb.2,trivial⟩,hr⟩
    simp[execOp,g1,V.γ,γL,run,h4,h5]
  ·simp at hc
 case lookup t m kx ok=>
  split at hc
  ·rename_i kk z m' k' hmp hm hkx
   simp at hc;subst hc
   obtain⟨kt,et,hu,hK,hz⟩:=hY.mp t kk z hmp
   have hr:eLkp kk z ok m' k' fr h k e=0:=hr
   unfold eLkp at hr
   obtain⟨key,g1,hr⟩:=zA hr he
   obtain⟨h1,b1⟩:=zq hf hkx g1
   obtain⟨hzr,hzb⟩:=zav (E:=E) (w:=w) hz ρ
   have zb:(zcE ok z false).bd n:=by
    cases ok
    ·exact bd_mono (Nat.zero_le _) _ hzb
    ·exact⟨bd_mono (Nat.zero_le _) _ hzb,trivial,trivial⟩
   rw[yG]at hr
   split at hr
   rotate_left
   ·obtain⟨hks,hr⟩:=zn hr he
    split at hr
    ·rename_i g2
     obtain⟨h2,_⟩:=zq hf hm g2
     have hf0:=hK.findS E ρ w key [] [] hks (fun p hp=>by cases hp) rfl
     refine⟨_,?_,zb,hr⟩
     cases ok <;> simp[execOp,h1,h2,V.γ,γL,Instr.lookup,run_underlying hu,hK.checkS E ρ w true key hks,hf0,hzr,zcE,bc]
    ·rename_i id g2
     obtain⟨h2,_⟩:=zq hf hm g2
     obtain⟨l,ho,hr⟩:=zeF hr he
     rw[zJ]at ho
     obtain⟨hall,hr⟩:=zn hr he
     obtain⟨es,e1,e2,e3⟩:=hs.obj id _ ho
     obtain⟨l',hpm,e2⟩:=zcu e2 l rfl
     have hg:=MapKept.run_getObj_map (P:=P) e1
     have hf0:=hK.findS E ρ w key l' es.toList hks (fun p hp=>(zcD _ _).1 hall p (hpm.subset hp)) e2
     refine⟨_,?_,zb,hr⟩
     cases ok <;> simp[execOp,h1,h2,V.γ,γL,Instr.lookup,run_underlying hu,hg,hK.checkS E ρ w es.isEmpty key hks,hf0,hzr,zcE,bc]
    ·exact absurd hr he
   rename_i hkb
   split at hr
   ·rename_i g2
    obtain⟨h2,_⟩:=zq hf hm g2
    have hf0:=hK.find E ρ w key [] none [] hkb rfl rfl
    refine⟨_,?_,zb,hr⟩
    cases ok <;> simp[execOp,h1,h2,V.γ,γL,Instr.lookup,run_underlying hu,hK.check E ρ w true key hkb,hf0,hzr,zcE,bc]
   ·rename_i id g2
    obtain⟨h2,_⟩:=zq hf hm g2
    obtain⟨l,ho,hr⟩:=zeF hr he
    rw[zJ]at ho
    obtain⟨r,hfnd,hr⟩:=zA hr he
    obtain⟨es,e1,e2,e3⟩:=hs.obj id _ ho
    obtain⟨l',hpm,e2⟩:=zcu e2 l rfl
    have hg:=MapKept.run_getObj_map (P:=P) e1
    split at hr
    ·rename_i _ _ _ _ _
     have hf0:=hK.find E ρ w key l' none es.toList hkb (zb1 hpm hfnd) e2
     refine⟨_,?_,zb,hr⟩
     cases ok <;> simp[execOp,h1,h2,V.γ,γL,Instr.lookup,run_underlying hu,hg,hK.check E ρ w es.isEmpty key hkb,hf0,hzr,zcE,bc]
    ·rename_i j v
     obtain⟨l1,a1,l2,m1,m2,q1,_,_,_,_,_,q2⟩:=zb0 hpm hfnd
     have hf0:=hK.find E ρ w key l' _ es.toList hkb q2 e2
     have vb:v.bd n:=bd_mono hn _ ((hs.bd id _ ho).2 (a1,v) (by rw[q1];simp)).2
     refine⟨_,?_,?_,hr⟩
     ·cases ok <;> simp[execOp,h1,h2,V.γ,γL,Instr.lookup,run_underlying hu,hg,hK.check E ρ w es.isEmpty key hkb,hf0,zcE,bc]
     ·cases ok
      ·exact vb
      ·exact⟨vb,trivial,trivial⟩
   ·exact absurd hr he
  ·simp at hc
 case convert s d x=>
  split at hc
  ·rename_i z1 k1 z2 k2 h1 h2
   obtain⟨x',hx,rfl⟩:=yT hc
   obtain⟨d1,hd1,_,hk1⟩:=zbF hY.ti h1
   obtain⟨d2,hd2,_,hk2⟩:=zbF hY.ti h2
   have hd1:P.underlying s=some (.int k1):=by rw[hd1,zmC hk1]
   have hd2:P.underlying d=some (.int k2):=by rw[hd2,zmC hk2]
   have run:∀ k0 m,(convert s d (.int k0 m)).run P w=.ok (.int k2 (k2.wrap m)) w:=by
    intro k0 m
    simp[convert,run_underlying hd1,run_underlying hd2,Conv.intToInt]
   have hr:eCv k2 x' fr h k e=0:=hr
   unfold eCv at hr
   split at hr
   ·rename_i k0 m hb
    obtain⟨h1,_⟩:=zq hf hx hb
    refine⟨_,?_,?_,hr⟩ <;> first | exact trivial | simp[execOp,h1,V.γ,run,z6]
   ·rename_i k0 m hb
    obtain⟨h1,_⟩:=zq hf hx hb
    refine⟨_,?_,?_,hr⟩ <;> first | exact trivial | simp[execOp,h1,V.γ,run,SE.den]
   ·exact absurd hr he
  ·simp at hc
 case makeFunc f first caps=>
  split at hc
  ·rename_i F p l hp hl
   simp at hc;subst hc
   have hr:eMkf F p l fr h k e=0:=hr
   unfold eMkf at hr
   split at hr
   ·rename_i vp vl h1 h2
    obtain⟨e1,b1⟩:=zbJ hf hp h1
    obtain⟨e2,b2⟩:=zbJ hf hl h2
    have e1':first.map a.eval=(γL E ρ vp).toArray:=Array.toList_inj.1 (by rw[Array.toList_map];exact e1)
    have e2':caps.map a.eval=(γL E ρ vl).toArray:=Array.toList_inj.1 (by rw[Array.toList_map];exact e2)
    refine⟨_,?_,?_,hr⟩ <;> first | exact⟨b1,b2⟩ | simp[execOp,Instr.makeFunc,V.γ,e1',e2']
   ·exact absurd hr he
  ·simp at hc
 case fieldAddr t x f=>
  split at hc
  ·rename_i fs z ht
   split at hc
   ·rename_i o1 sz g hq
    split at hc
    ·simp at hc
    ·rename_i hz
     obtain⟨x',hx,rfl⟩:=yT hc
     obtain⟨fl,hu,hfs,hfl,_⟩:=ze8 hY.ti ht
     rw[zX,hfs]at hq
     obtain⟨fd,hf1,hf2,hf3,_⟩:=zbP _ _ _ _ _ hq
     obtain⟨h5,_⟩:=jE (w:=w) (hfl fd (List.mem_of_getElem? hf1))
     have hf1:fl[f]? = some fd:=by simpa using hf1
     have hz:¬ sz=0:=by simpa using hz
     rcases zjd hr with ⟨id,off,hp,hk⟩ | hr
     rotate_left
     ·obtain⟨id,q,o,hp,hk⟩:=zuL (show vFp _ _ _=0 from hr) he
      obtain⟨h1,h2⟩:=zq hf hx hp
      refine⟨.fp id q (Nat.add o o1),?_,h2,hk⟩
      simp[execOp,h1,V.γ,Instr.fieldAt,run_underlying hu,hf1,Instr.sureAddr,fieldPlace,h5,hf3,hz,hf2,yp,Nat.add_assoc]
     obtain⟨h1,h2⟩:=zq hf hx hp
     refine⟨.ptr id (Nat.add off o1),?_,h2,hk⟩
     simp[execOp,h1,V.γ,Instr.fieldAt,run_underlying hu,hf1,Instr.sureAddr,fieldPlace,h5,hf3,hz,hf2,yp]
   ·simp at hc
  ·simp at hc
 case field t x f=>
  split at hc
  ·rename_i fs z ht
   split at hc
   ·rename_i o1 sz g hq
    obtain⟨x',hx,rfl⟩:=yT hc
    obtain⟨l,hl,hr⟩:=zvU hr he
    obtain⟨v,hv,hk⟩:=zA hr he
    obtain⟨h1,h2⟩:=zq hf hx hl
    obtain⟨fl,hu,hfs,hfl,_⟩:=ze8 hY.ti ht
    rw[zX,hfs]at hq
    obtain⟨fd,hf1,hf2,hf3,hf4⟩:=zbP _ _ _ _ _ hq
    obtain⟨h5,h6⟩:=zwk (E:=E) (w:=w) (hfl fd (List.mem_of_getElem? hf1)) hf3 hf4 hv ρ
    have hf1:fl[f]? = some fd:=by simpa using hf1
    refine⟨v,?_,h6 _ h2,hk⟩
    simp[execOp,h1,V.γ,Instr.field,run_underlying hu,hf1,asAgg,hf2,h5]
   ·simp at hc
  ·simp at hc
 case indexAddr t x j=>
  split at hc
  ·rename_i m e1 esz g z ht
   obtain⟨x',j',hx,hj,rfl⟩:=yB hc
   obtain⟨id,off,hp,hr⟩:=zbC hr he
   obtain⟨kk,jj,hjj,hr⟩:=zje hr he
   obtain⟨m2,hm2,hk⟩:=zA hr he
   obtain⟨rfl,hlt⟩:=zvq hm2
   obtain⟨h1,h2⟩:=zq hf hx hp
   obtain⟨h3,_⟩:=zq hf hj hjj
   obtain⟨hu,hty,hsz,_⟩:=zb5 hY.ti ht
   obtain⟨h4,_⟩:=jE (w:=w) hty
   refine⟨.ptr id (Nat.add off (Nat.mul m2 esz)),?_,h2,hk⟩
   simp[execOp,h1,h3,V.γ,Instr.indexAt,asIntOf,run_underlying hu,Instr.sureAddr,h4,hsz,hlt,yp]
  ·rename_i e1 esz by1 z ht
   obtain⟨x',j',hx,hj,rfl⟩:=yB hc
   obtain⟨hu,hty,hsz,_⟩:=zax hY.ti ht
   obtain⟨h4,_⟩:=jE (w:=w) hty
   rcases vSl_or hr with ⟨v,id,off,m,hp,hr,hγ,hbd⟩ | hr
   rotate_left
   ·obtain⟨id,q,N,I,l,kk,hp,hjj,ho,hl,hk⟩:=ixF_ok hr he
    obtain⟨h1,h2⟩:=zq hf hx hp
    obtain⟨h3,_⟩:=zq hf hj hjj
    obtain⟨r1,r2,r3,r4,r5⟩:=hs.obj id _ ho
    obtain⟨g1,g2,g3,g4⟩:=r5 hl
    refine⟨.fp id q 0,?_,h2,hk⟩
    simp[execOp,h1,h3,g1,V.γ,Instr.indexAt,asIntOf,run_underlying hu,h4,hsz,g2,yp,r3]
   obtain⟨kk,jj,hjj,hr⟩:=zje hr he
   obtain⟨m2,hm2,hk⟩:=zA hr he
   obtain⟨rfl,hlt⟩:=zvq hm2
   obtain⟨h1,h2⟩:=zq hf hx hp
   obtain⟨h3,_⟩:=zq hf hj hjj
   obtain⟨o',c,hγ2,ho'⟩:=hγ E ρ
   rw[hγ2,ho' (by omega)]at h1
   refine⟨.ptr id (Nat.add off (Nat.mul m2 esz)),?_,hbd _ h2,hk⟩
   simp[execOp,h1,h3,V.γ,Instr.indexAt,asIntOf,run_underlying hu,h4,hsz,hlt,yp]
  ·simp at hc
 case index t x j=>
  split at hc
  ·rename_i m e1 esz g z ht
   obtain⟨x',j',hx,hj,rfl⟩:=yB hc
   obtain⟨l,hl,hr⟩:=zvU hr he
   obtain⟨kk,jj,hjj,hr⟩:=zje hr he
   obtain⟨m2,hm2,hr⟩:=zA hr he
   obtain⟨v,hv,hk⟩:=zA hr he
   obtain⟨rfl,hlt⟩:=zvq hm2
   obtain⟨h1,h2⟩:=zq hf hx hl
   obtain⟨h3,_⟩:=zq hf hj hjj
   obtain⟨hu,hty,hsz,hg,_⟩:=zb5 hY.ti ht
   obtain⟨h5,h6⟩:=zwk (E:=E) (w:=w) hty hsz hg hv ρ
   obtain⟨h7,_⟩:=jE (w:=w) hty
   refine⟨v,?_,h6 _ h2,hk⟩
   rw[<- hsz]at h5
   have h5:(Go.part e1 (γL E ρ l).toArray (m2*yb P e1)).run P w=.ok (v.γ E ρ) w:=h5
   simp[execOp,h1,h3,V.γ,Instr.index,asIntOf,run_underlying hu,hlt,h7,h5]
  ·simp at hc
 case extract x j=>
  split at hc
  ·rename_i x' hx
   simp at hc;subst hc
   obtain⟨l,hl,hr⟩:=vTup_ok hr he
   obtain⟨v,hv,hk⟩:=zA hr he
   obtain⟨h1,h2⟩:=zq hf hx hl
   rw[zX]at hv
   have h3:(γL E ρ l)[j]? = some (v.γ E ρ):=by rw[γL_get,hv];rfl
   refine⟨v,?_,(yg _ l).1 h2 v (List.mem_of_getElem? hv),hk⟩
   simp[execOp,h1,V.γ,Instr.extract,h3]
  ·simp at hc
 case makeSlice t l c=>
  split at hc
  ·obtain⟨x',y',_,_,rfl⟩:=yB hc;simp[zN,IOp.go]at hst
  ·simp at hc
 case slice t x lo hi mx=>
  split at hc
  ·rename_i x' lo' hi' mx' hx hlo hhi hmx
   have vals:∀ {o:Option Operand} {o':Option Od} {v:Option V},cOdO o=some o'->odO fr o'=some v->o.map a.eval=v.map (V.γ E ρ):=by
    intro o o' v h1 h2
    cases o with
    | none=>
     simp[cOdO]at h1;subst h1
     simp[odO]at h2;subst h2;rfl
    | some y=>
     simp only[cOdO]at h1
     split at h1
     ·rename_i y' hy
      simp at h1;subst h1
      simp only[odO,Option.map_eq_some_iff]at h2
      obtain⟨u,hu,rfl⟩:=h2
      obtain⟨h3,_⟩:=zq hf hy hu
      simp[h3]
     ·simp at h1
   split at hc
   ·rename_i e1 esz by1 z ht
    simp at hc;subst hc
    obtain⟨hu,hty,hsz,_⟩:=zax hY.ti ht
    obtain⟨h4,_⟩:=jE (w:=w) hty
    have hr:eSlc esz x' lo' hi' mx' fr h k e=0:=hr
    unfold eSlc at hr
    split at hr
    ·rename_i v1 v2 v3 v4 g1 g2 g3 g4
     obtain⟨h1,h2⟩:=zq hf hx g1
     have b2:=vals hlo g2
     have b3:=vals hhi g3
     have b4:=vals hmx g4
     split at hr
     ·rename_i i2 i3 i4 l2 l3 l4
      split at hr
      ·rename_i id off m c
       split at hr
       ·rename_i l r mm hb
        have hB:=zbA (E:=E) (P:=P) (w:=w) l2 l3 l4 hb true ρ
        refine⟨_,?_,?_,hr⟩
        ·simp only[execOp,h1,b2,b3,b4,V.γ,Instr.sliceAt,Instr.slice,Sem.run_bind,run_underlying hu,Result.andThen_ok,hB,h4,hsz]
         rw[yG]
         by_cases hml:mm=l
         ·simp[hml]
         ·have:Nat.beq mm l=false:=by
           cases hbb:Nat.beq mm l with
           | false=>rfl
           | true=>exact absurd (Nat.eq_of_beq_eq_true hbb) hml
          simp[this,hml,yp]
        ·exact h2
       ·exact absurd hr he
      ·split at hr
       ·rename_i p hb
        obtain⟨l,r,mm⟩:=p
        have hB:=zbA (E:=E) (P:=P) (w:=w) l2 l3 l4 hb true ρ
        have hz:=zyj hb
        obtain⟨rfl,rfl,rfl⟩:=hz
        refine⟨_,?_,?_,hr⟩
        ·simp only[execOp,h1,b2,b3,b4,V.γ,Instr.sliceAt,Instr.slice,Sem.run_bind,run_underlying hu,Result.andThen_ok,hB,h4,hsz]
         simp
        ·trivial
       ·exact absurd hr he
      ·rename_i id n'
       have hor:=zAO hr
       clear hr
       rcases hor with ⟨r0,m0,rfl,rfl,rfl,ho,hr0,hm0,hk⟩ | hr
       ·have hm1:=zmd hs ho
        have hB:=zbA (E:=E) (P:=P) (w:=w) (n:=n') (c:=(ρ id).c) (l:=0) (r:=r0) (m:=(ρ id).c) l2 l3 l4 (zyl (by omega)) true ρ
        refine⟨.vec id r0,?_,h2,hk⟩
        simp only[execOp,h1,b2,b3,b4,V.γ,Instr.sliceAt,Instr.slice,Sem.run_bind,run_underlying hu,Result.andThen_ok,hB,h4,hsz]
        by_cases hne:(ρ id).c=0
        ·simp[hne,yp]
        ·simp[hne,yp]
       unfold tailV at hr
       split at hr
       rotate_left
       ·rename_i l0 r0 m0 ho
        obtain⟨hb,hr⟩:=zn hr he
        simp only[Bool.and_eq_true,Nat.beq_eq,Nat.blt_eq,Nat.ble_eq]at hb
        obtain⟨⟨hesz,hl0,hr0⟩,hm0⟩:=hb
        rw[zJ]at ho
        have hm1:=zmd hs ho
        have hB:=zbA (E:=E) (P:=P) (w:=w) (n:=n') (c:=(ρ id).c) (l:=l0) (r:=r0) (m:=(ρ id).c) l2 l3 l4 (zBw hl0 (by omega)) true ρ
        refine⟨_,?_,?_,hr⟩
        ·simp only[execOp,h1,b2,b3,b4,V.γ,Instr.sliceAt,Instr.slice,Sem.run_bind,run_underlying hu,Result.andThen_ok,hB,h4,hsz]
         subst hesz
         by_cases hz:r0 - l0=0
         ·by_cases hne:(ρ id).c=l0
          ·simp[hz,hne,yp]
          ·simp[hz,hne,yp]
         ·have hne:¬ (ρ id).c=l0:=by omega
          simp[hz,hne,yp]
        ·exact h2
       ·exact absurd hr he
       ·rename_i l0 m0 ho
        obtain⟨hb,hr⟩:=zn hr he
        simp only[Bool.and_eq_true,Nat.beq_eq,Nat.blt_eq,Nat.ble_eq]at hb
        obtain⟨⟨hesz,hl0⟩,hm0⟩:=hb
        rw[zJ]at ho
        have hm1:=zmd hs ho
        have hB:=zbA (E:=E) (P:=P) (w:=w) (n:=n') (c:=(ρ id).c) (l:=l0) (r:=n') (m:=(ρ id).c) l2 l3 l4 (zyk hl0 (Nat.le_trans hm0 hm1)) true ρ
        refine⟨_,?_,?_,hr⟩
        ·simp only[execOp,h1,b2,b3,b4,V.γ,Instr.sliceAt,Instr.slice,Sem.run_bind,run_underlying hu,Result.andThen_ok,hB,h4,hsz]
         subst hesz
         by_cases hz:n' - l0=0
         ·by_cases hne:(ρ id).c=l0
          ·simp[hz,hne,yp]
          ·simp[hz,hne,yp]
         ·have hne:¬ (ρ id).c=l0:=by omega
          simp[hz,hne,yp]
        ·exact h2
      ·exact absurd hr he
     ·exact absurd hr he
    ·exact absurd hr he
   ·rename_i m e1 esz g z ht
    simp at hc;subst hc
    obtain⟨hu,hty,hsz,_⟩:=zb5 hY.ti ht
    obtain⟨h4,_⟩:=jE (w:=w) hty
    have hr:eSla m esz x' lo' hi' mx' fr h k e=0:=hr
    unfold eSla at hr
    split at hr
    ·rename_i id off v2 v3 v4 g1 g2 g3 g4
     obtain⟨h1,h2⟩:=zq hf hx g1
     have b2:=vals hlo g2
     have b3:=vals hhi g3
     have b4:=vals hmx g4
     split at hr
     ·rename_i i2 i3 i4 l2 l3 l4
      split at hr
      ·rename_i l r mm hb
       have hB:=zbA (E:=E) (P:=P) (w:=w) l2 l3 l4 hb false ρ
       refine⟨_,?_,?_,hr⟩
       ·simp only[execOp,h1,b2,b3,b4,V.γ,Instr.sliceAt,Instr.sureAddr,Sem.run_bind,run_underlying hu,Result.andThen_ok,Sem.run_pure,hB,h4,hsz]
        rw[yG]
        by_cases hml:mm=l
        ·simp[hml]
        ·have:Nat.beq mm l=false:=by
          cases hbb:Nat.beq mm l with
          | false=>rfl
          | true=>exact absurd (Nat.eq_of_beq_eq_true hbb) hml
         simp[this,hml,yp]
       ·exact h2
      ·exact absurd hr he
     ·exact absurd hr he
    ·exact absurd hr he
   ·simp at hc
  ·simp at hc
 case call cl=>
  split at hc
  ·simp at hc
  ·rename_i b hcal
   split at hc
   ·rename_i t x hty hxs
    have harg:cl.args.map a.eval=#[a.eval x]:=Array.toList_inj.1 (by rw[Array.toList_map,hxs];rfl)
    have hty0:cl.argTypes[0]? = some t:=by
     have:cl.argTypes.toList[0]? = some t:=by rw[hty];rfl
     simpa using this
    have hrun:∀ r,(Builtin.len_ cl.argTypes ty #[a.eval x]).run P w=.ok r w->(execOp a.eval ⟨dst,.call cl,ty,pos,aft,gd⟩).run P w=.ok (.value r) w:=by
     intro r hr
     simp[execOp,resolve,hcal,invoke,builtin,harg,hr]
    split at hc
    ·rename_i e1 esz by1 z ht
     obtain⟨x',hx,rfl⟩:=yT hc
     obtain⟨hu,_⟩:=zax hY.ti ht
     have hr:zui x' fr h k e=0:=hr
     unfold zui at hr
     split at hr
     ·rename_i g1
      obtain⟨h1,_⟩:=zq hf hx g1
      refine⟨_,hrun _ ?_,?_,hr⟩
      ·simp[Builtin.len_,hty0,h1,V.γ,run_underlying hu,goInt]
      ·trivial
     ·rename_i g1
      obtain⟨h1,_⟩:=zq hf hx g1
      refine⟨_,hrun _ ?_,?_,hr⟩
      ·simp[Builtin.len_,hty0,h1,V.γ,run_underlying hu,goInt]
      ·trivial
     ·rename_i g1
      obtain⟨h1,_⟩:=zq hf hx g1
      refine⟨_,hrun _ ?_,?_,hr⟩
      ·simp[Builtin.len_,hty0,h1,V.γ,run_underlying hu,goInt]
      ·trivial
     ·rename_i g1
      obtain⟨h1,_⟩:=zq hf hx g1
      refine⟨_,hrun _ ?_,?_,hr⟩
      ·simp[Builtin.len_,hty0,h1,V.γ,run_underlying hu,goInt]
      ·trivial
     ·rename_i id q g1
      obtain⟨z,N,I,l,ho,hk⟩:=zeN hr he
      rw[zJ]at ho
      obtain⟨h1,_⟩:=zq hf hx g1
      obtain⟨r1,r2,r3,r4,r5⟩:=hs.obj id _ ho
      refine⟨_,hrun _ ?_,?_,hk⟩
      ·simp[Builtin.len_,hty0,h1,V.γ,run_underlying hu,goInt,r4]
      ·trivial
     ·exact absurd hr he
    ·rename_i m e1 esz g z ht
     simp at hc;subst hc
     obtain⟨hu,_⟩:=zb5 hY.ti ht
     have hr:k (.i .i64 m) h=0:=hr
     refine⟨_,hrun _ ?_,?_,hr⟩
     ·simp[Builtin.len_,hty0,V.γ,run_underlying hu,goInt]
     ·trivial
    ·split at hc
     ·rename_i p x' hmp hx
      simp at hc;subst hc
      obtain⟨kt,et,hu,_⟩:=hY.mp _ p.1 p.2 hmp
      have hr:eMln x' fr h k e=0:=hr
      unfold eMln at hr
      split at hr
      ·rename_i g1
       obtain⟨h1,_⟩:=zq hf hx g1
       refine⟨_,hrun _ ?_,?_,hr⟩
       ·simp[Builtin.len_,hty0,h1,V.γ,run_underlying hu,goInt]
       ·trivial
      ·rename_i id g1
       obtain⟨l,ho,hk⟩:=zeF hr he
       rw[zJ]at ho
       obtain⟨h1,_⟩:=zq hf hx g1
       obtain⟨es,r1,r2,r3⟩:=hs.obj id _ ho
       have hlen:es.size=l.length:=by
        have:=List.Perm.length_eq r2
        simpa using this
       refine⟨_,hrun _ ?_,?_,hk⟩
       ·have hg:=MapKept.run_getObj_map (P:=P) r1
        simp[Builtin.len_,hty0,h1,V.γ,run_underlying hu,goInt,hg,hlen,yV]
       ·trivial
      ·exact absurd hr he
     ·simp at hc
   ·rename_i x y hxs
    obtain⟨x',y',hx,hy,rfl⟩:=yB hc
    have harg:cl.args.map a.eval=#[a.eval x,a.eval y]:=Array.toList_inj.1 (by rw[Array.toList_map,hxs];rfl)
    have hr:eMmx true x' y' fr h k e=0:=hr
    unfold eMmx at hr
    split at hr
    ·rename_i t1 p t2 q g1 g2
     obtain⟨h1,_⟩:=zq hf hx g1
     obtain⟨h2,_⟩:=zq hf hy g2
     refine⟨_,?_,?_,hr⟩
     ·by_cases hpq:p<q <;> simp[execOp,resolve,hcal,invoke,builtin,harg,Builtin.max_,Builtin.max2,h1,h2,V.γ,zbq,hpq]
     ·trivial
    ·rename_i x1 y1 _ g1 g2
     obtain⟨v,hv,hr⟩:=zA hr he
     obtain⟨h1,_⟩:=zq hf hx g1
     obtain⟨h2,_⟩:=zq hf hy g2
     obtain⟨t,p,q,e1,e2,rfl⟩:=mmS_ok hv
     refine⟨_,?_,?_,hr⟩
     ·by_cases hpq:p.den E<q.den E <;> simp[execOp,resolve,hcal,invoke,builtin,harg,Builtin.max_,Builtin.max2,h1,h2,e1 E ρ,e2 E ρ,V.γ,SE.den,hpq]
     ·trivial
    ·exact absurd hr he
   ·rename_i x y hxs
    obtain⟨x',y',hx,hy,rfl⟩:=yB hc
    have harg:cl.args.map a.eval=#[a.eval x,a.eval y]:=Array.toList_inj.1 (by rw[Array.toList_map,hxs];rfl)
    have hr:eMmx false x' y' fr h k e=0:=hr
    unfold eMmx at hr
    split at hr
    ·rename_i t1 p t2 q g1 g2
     obtain⟨h1,_⟩:=zq hf hx g1
     obtain⟨h2,_⟩:=zq hf hy g2
     refine⟨_,?_,?_,hr⟩
     ·by_cases hpq:q<p <;> simp[execOp,resolve,hcal,invoke,builtin,harg,Builtin.min_,Builtin.min2,h1,h2,V.γ,zbq,hpq]
     ·trivial
    ·rename_i x1 y1 _ g1 g2
     obtain⟨v,hv,hr⟩:=zA hr he
     obtain⟨h1,_⟩:=zq hf hx g1
     obtain⟨h2,_⟩:=zq hf hy g2
     obtain⟨t,p,q,e1,e2,rfl⟩:=mmS_ok hv
     refine⟨_,?_,?_,hr⟩
     ·by_cases hpq:q.den E<p.den E <;> simp[execOp,resolve,hcal,invoke,builtin,harg,Builtin.min_,Builtin.min2,h1,h2,e1 E ρ,e2 E ρ,V.γ,SE.den,hpq]
     ·trivial
    ·exact absurd hr he
   ·split at hc
    ·split at hc
     ·obtain⟨x',y',_,_,rfl⟩:=yB hc;simp[zN,IOp.go]at hst
     ·simp at hc
    ·simp at hc
   ·split at hc
    ·split at hc
     ·obtain⟨x',y',_,_,rfl⟩:=yB hc;simp[zN,IOp.go]at hst
     ·simp at hc
    ·simp at hc
   ·simp at hc
  ·simp at hc
 all_goals simp at hc
end Go.Ev
end
set_option linter.unusedSimpArgs false
set_option linter.unusedVariables false
noncomputable section
namespace Go.Ev
open Go
variable {E:Env} {P:Program} {w:World}
def zek (E:Env) (P:Program) (o:Oper) (a:Act) (ρ:Rho) (h:H) (w:World) (v:V) (h':H):Prop:=
 ∃ ρ' w' nx,(execOp a.eval o).run P w=.ok nx w'/\(nx=.value (v.γ E ρ')\/(nx=.skip/\v=.tup []))/\Sat E ρ' h' w'/\Ext ρ h w ρ' h' w'/\v.bd h'.n.toNat
theorem zlQ {o:Oper} {a:Act} {ρ:Rho} {h:H} {t:TypeId} {l:List V} {v:Ev.P->V} {k:KV} {e:Nat} (hs:Sat E ρ h w) (hr:zf8 h t l v k e=0) (he:e≠0)
  (hx:(execOp a.eval o).run P w=.ok (.value ((v h.n).γ E (jP ρ h.n ⟨w.heap.size,0⟩))) (w.alloc (.cells (γL E ρ l).toArray t))) (hb:bdL h.n.toNat l) (hv:(v h.n).bd (h.n.toNat+1)) :
  ∃ v h',zek E P o a ρ h w v h'/\k v h'=0:=by
 obtain⟨h1,hr⟩:=zn hr he
 rw[ji]at hr
 obtain⟨g1,g2⟩:=zaC E (w':=w.alloc (.cells (γL E ρ l).toArray t)) hs (.cells t l) hb ⟨w.heap.size,0⟩ (fun _=>Nat.le_refl _)
  (by show (w.heap.push _)[w.heap.size]? = _;simp) (fun b hb=>by rw[zv,Array.getElem?_push,if_neg (by omega)]) (by simp[zv]) rfl rfl rfl
 exact⟨_,_,⟨_,_,_,hx,.inl rfl,g1,g2,by simpa [H.add] using hv⟩,hr⟩
theorem zzE {α:Type} (n:Nat) (z:List α) (h:0<z.length) (j:Nat):(zdV n z)[j]? = if j<n*z.length then z[j % z.length]? else none:=by
 induction n generalizing j with
 | zero=>simp[zdV]
 | succ n ih=>
  simp only[zdV,zaf,List.getElem?_append]
  by_cases h1:j<z.length
  ·rw[if_pos h1,if_pos (by rw[Nat.succ_mul];omega),Nat.mod_eq_of_lt h1]
  ·rw[if_neg h1,ih,Nat.succ_mul]
   by_cases h2:j - z.length<n*z.length
   ·rw[if_pos h2,if_pos (by omega),Nat.mod_eq_sub_mod (by omega:j>=z.length)]
   ·rw[if_neg h2,if_neg (by omega)]
theorem zzD {α:Type} (n:Nat) (z:List α) (x:α) (h:x∈zdV n z):x∈z:=by
 induction n with
 | zero=>simp[zdV]at h
 | succ n ih=>
  simp only[zdV,zaf,List.mem_append]at h
  rcases h with h | h
  ·exact h
  ·exact ih h
theorem repA_γ (ρ:Rho) (n:Nat) (z:List V) (h:0<z.length):Array.map (fun x=>(γL E ρ z).toArray[x % (γL E ρ z).toArray.size]!) (Array.range (n*z.length))=(γL E ρ (zdV n z)).toArray:=by
 apply Array.ext_getElem?
 intro j
 simp only[Array.getElem?_map,List.getElem?_toArray,γL_get,zzE n z h]
 by_cases h1:j<n*z.length
 ·have h2:j % z.length<z.length:=Nat.mod_lt _ h
  rw[if_pos h1]
  have h3:(Array.range (n*z.length))[j]? = some j:=by simp[h1]
  rw[h3]
  have h4:(γL E ρ z).toArray.size=z.length:=by simp[γL_length]
  rw[Option.map_some,h4]
  have h5:j % z.length<(γL E ρ z).toArray.size:=by omega
  rw[getElem!_pos ((γL E ρ z).toArray) (j % z.length) h5]
  rw[List.getElem?_eq_getElem h2]
  simp[γL_eq]
 ·rw[if_neg h1]
  simp
  omega
def zdj (d:Nat):Tr V->Nat->List V->Tr V
 | tr,_,[]=>tr
 | tr,off,v::r=>zdj d (tr.set d off v) (off+1) r
theorem zbG {σ:Type} (d:Nat):∀ (l:List V) (tr:Tr V) (off:Nat) (k:Tr V->σ),zew d tr off l k=k (zdj d tr off l)
 | [],tr,off,k=>rfl
 | v::r,tr,off,k=>by
  have e:zew d tr off (v::r) k=zaK tr d off v (fun tr=>zew d tr (off+1) r k):=rfl
  rw[e,j2,zbG d r];rfl
theorem zaT (d:Nat):∀ (l:List V) (tr:Tr V) (off j:Nat),off+l.length<=2 ^ d->j<2 ^ d->(zdj d tr off l).get d j=if off<=j/\j<off+l.length then l[j - off]? else tr.get d j
 | [],tr,off,j,_,_=>by rw[if_neg (by simp only[List.length_nil];omega)];rfl
 | v::r,tr,off,j,h,hj=>by
  simp only[List.length_cons]at h ⊢
  have e:zdj d tr off (v::r)=zdj d (tr.set d off v) (off+1) r:=rfl
  rw[e,zaT d r _ _ j (by omega) hj,Tr.get_set d _ _ _ _ (by omega) hj]
  by_cases h1:j=off
  ·subst h1
   rw[if_neg (by omega),if_pos rfl,if_pos (by omega)];simp
  ·rw[if_neg h1]
   by_cases h2:off+1<=j/\j<off+1+r.length
   ·rw[if_pos h2,if_pos (by omega),show j - off=(j - (off+1))+1 from by omega];simp
   ·rw[if_neg h2,if_neg (by omega)]
def zi9 (o:O) (off:Nat) (vs:List V) (o':O):Prop:=
 match o with
 | .cells t c=>∃ c',spl c off vs=some c'/\o'=.cells t c'
 | .arr t n d z tr=>off+vs.length<=n/\o'=.arr t n d z (zdj d tr off vs)
 | .vec t x n c=>∃ c',spl c off vs=some c'/\o'=.vec t x n c'
 | .varr t n d z tr=>off+vs.length<=n/\o'=.varr t n d z (zdj d tr off vs)
 | .row ..=>False
 | .oa t q n d tr=>off+vs.length<=n/\o'=.oa t q n d (zdj d tr off vs)
 | .map _=>False
 | .x _=>False
 | .dead=>False
theorem zvc {o o':O} {off:Nat} {vs:List V} (h:zi9 o off vs o'):o.mine=true:=by
 cases o <;> first | rfl | exact(show False from h).elim
theorem zlM {o:O} {off:Nat} {l:List V} {k:O->Nat} {e:Nat} (h:putN o off l k e=0) (he:e≠0):∃ o',zi9 o off l o'/\k o'=0:=by
 cases o with
 | cells t c=>obtain⟨c',h1,h2⟩:=zA (x:=spl c off l) (f:=fun c=>k (.cells t c)) h he;exact⟨_,⟨c',h1,rfl⟩,h2⟩
 | vec t x n c=>obtain⟨c',h1,h2⟩:=zA (x:=spl c off l) (f:=fun c=>k (.vec t x n c)) h he;exact⟨_,⟨c',h1,rfl⟩,h2⟩
 | arr t n d z tr=>
  obtain⟨h1,h2⟩:=zn (x:=Nat.ble (Nat.add off (len l)) n) (a:=zew d tr off l (fun tr=>k (.arr t n d z tr))) h he
  rw[zbG]at h2
  exact⟨_,⟨by simpa [yV] using h1,rfl⟩,h2⟩
 | varr t n d z tr=>
  obtain⟨h1,h2⟩:=zn (x:=Nat.ble (Nat.add off (len l)) n) (a:=zew d tr off l (fun tr=>k (.varr t n d z tr))) h he
  rw[zbG]at h2
  exact⟨_,⟨by simpa [yV] using h1,rfl⟩,h2⟩
 | row q z N I l=>exact absurd h he
 | oa t q n d tr=>
  obtain⟨h1,h2⟩:=zn (x:=Nat.ble (Nat.add off (len l)) n) (a:=zew d tr off l (fun tr=>k (.oa t q n d tr))) h he
  rw[zbG]at h2
  exact⟨_,⟨by simpa [yV] using h1,rfl⟩,h2⟩
 | map l=>exact absurd h he
 | x l=>exact absurd h he
 | dead=>exact absurd h he
theorem zwi {o:O} {off:Nat} {v:V} {k:O->Nat} {e:Nat} (h:put1 o off v k e=0) (he:e≠0):∃ o',zi9 o off [v] o'/\k o'=0:=by
 cases o with
 | cells t c=>obtain⟨c',h1,h2⟩:=zA (x:=spl c off [v]) (f:=fun c=>k (.cells t c)) h he;exact⟨_,⟨c',h1,rfl⟩,h2⟩
 | vec t x n c=>obtain⟨c',h1,h2⟩:=zA (x:=spl c off [v]) (f:=fun c=>k (.vec t x n c)) h he;exact⟨_,⟨c',h1,rfl⟩,h2⟩
 | arr t n d z tr=>
  obtain⟨h1,h2⟩:=zn (x:=Nat.blt off n) (a:=zaK tr d off v (fun tr=>k (.arr t n d z tr))) h he
  rw[j2]at h2
  exact ⟨_, ⟨by have : off < n := by simpa using h1
                simp;omega,rfl⟩,h2⟩
 | varr t n d z tr=>
  obtain⟨h1,h2⟩:=zn (x:=Nat.blt off n) (a:=zaK tr d off v (fun tr=>k (.varr t n d z tr))) h he
  rw[j2]at h2
  exact ⟨_, ⟨by have : off < n := by simpa using h1
                simp;omega,rfl⟩,h2⟩
 | row q z N I l=>exact absurd h he
 | oa t q n d tr=>
  obtain⟨h1,h2⟩:=zn (x:=Nat.blt off n) (a:=zaK tr d off v (fun tr=>k (.oa t q n d tr))) h he
  rw[j2]at h2
  exact ⟨_, ⟨by have : off < n := by simpa using h1
                simp;omega,rfl⟩,h2⟩
 | map l=>exact absurd h he
 | x l=>exact absurd h he
 | dead=>exact absurd h he
def zaY (cs:Array Value) (off:Nat) (vs:List Value):Array Value:=(cs.toList.take off ++ vs ++ cs.toList.drop (off+vs.length)).toArray
theorem zac {cs:Array Value} {off:Nat} {vs:List Value} (h:off+vs.length<=cs.size) (j:Nat):(zaY cs off vs)[j]? = if off<=j/\j<off+vs.length then vs[j - off]? else cs[j]?:=by
 unfold zaY
 simp only[List.getElem?_toArray]
 rw[List.getElem?_append,List.getElem?_append]
 have hlt:(cs.toList.take off).length=off:=by simp;omega
 simp only[hlt,List.length_append]
 by_cases h1:j<off
 ·rw[if_pos (by omega),if_pos h1,if_neg (by omega),List.getElem?_take,if_pos h1];simp
 ·by_cases h2:j<off+vs.length
  ·rw[if_pos h2,if_neg h1,if_pos (by omega)]
  ·rw[if_neg h2,if_neg (by omega),List.getElem?_drop]
   simp only[Array.getElem?_toList]
   congr 1;omega
theorem zai {cs:Array Value} {off:Nat} {vs:List Value} (h:off+vs.length<=cs.size):(zaY cs off vs).size=cs.size:=by
 unfold zaY
 simp;omega
theorem zmo {d:Nat} {tr:Tr V} {z:V} {off:Nat} {vs:List V} {i:Nat} (h:off+vs.length<=2 ^ d) (hi:i<2 ^ d):yH (zdj d tr off vs) d z i=if off<=i/\i<off+vs.length then vs.getD (i - off) z else yH tr d z i:=by
 unfold yH
 rw[zaT d vs tr off i h hi]
 split
 ·rw[List.getD_eq_getElem?_getD]
 ·rfl
theorem put_is {o o':O} {off:Nat} {vs:List V} {ρ:Rho} {L:Pl} {hp:Array Obj} {n:Nat} (hp1:zi9 o off vs o') (hi:o.Is E ρ L hp) (hb:o.bd n) (hv:bdL n vs) :
  ∃ (cs:Array Value) (t:TypeId),hp[L.b]? = some (.cells cs t (0,0))/\off+vs.length<=cs.size/\o.live=true/\o'.bd n /\
   (∀ hp':Array Obj,hp'[L.b]? = some (.cells (zaY cs off (γL E ρ vs)) t (0,0))->o'.Is E ρ L hp'):=by
 have hvl:(γL E ρ vs).length=vs.length:=γL_length E ρ vs
 cases o with
 | cells t c=>
  obtain⟨c',h1,rfl⟩:=hp1
  have hfit:=zb6 _ _ _ _ h1
  refine⟨_,t,hi,by simp[γL_length];exact hfit,rfl,zeW h1 hb hv,fun hp' h=>?_⟩
  simp only[O.Is]
  rw[h]
  congr 2
  apply Array.ext_getElem?
  intro j
  rw[zac (by simp[γL_length];exact hfit)]
  simp only[hvl,List.getElem?_toArray,γL_get]
  rw[zdg _ _ _ _ h1]
  split <;> rfl
 | vec t x m c=>
  obtain⟨c',h1,rfl⟩:=hp1
  have hfit:=zb6 _ _ _ _ h1
  have hlen:=spl_len _ _ _ _ h1
  obtain⟨cs,h2,h3,h4,h5,h6,h7⟩:=hi
  have hmul:m*x<=L.c*x:=Nat.mul_le_mul_right _ h4
  refine⟨cs,t,h2,by omega,rfl,zeW h1 hb hv,fun hp' h=>⟨_,h,?_,h4,h5,by omega,fun i hi=>?_⟩⟩
  ·rw[zai (by rw[hvl];omega)];exact h3
  ·rw[zac (by rw[hvl];omega),zdg _ _ _ _ h1,hvl]
   split
   ·rw[γL_get]
   ·exact h7 i (by omega)
 | arr t m d z tr=>
  obtain⟨h1,rfl⟩:=hp1
  obtain⟨h2,cs,h3,h4,h5⟩:=hi
  refine⟨cs,t,h3,by omega,rfl,⟨hb.1,fun i v hi hv2=>?_⟩,fun hp' h=>⟨h2,_,h,?_,fun i hi=>?_⟩⟩
  ·rw[zaT d vs tr off i (by omega) hi]at hv2
   split at hv2
   ·exact(yg n vs).1 hv v (List.mem_of_getElem? hv2)
   ·exact hb.2 i v hi hv2
  ·rw[zai (by rw[hvl];omega)];exact h4
  ·rw[zac (by rw[hvl];omega),hvl,zmo (by omega) (by omega)]
   split
   ·rename_i hc
    have hlt:i - off<vs.length:=by omega
    rw[γL_get,List.getD_eq_getElem?_getD]
    simp[hlt]
   ·exact h5 i hi
 | varr t m d z tr=>
  obtain⟨h1,rfl⟩:=hp1
  obtain⟨h2,cs,h3,h4,h5,h6,h7⟩:=hi
  refine⟨cs,t,h3,by omega,rfl,⟨hb.1,fun i v hi hv2=>?_⟩,fun hp' h=>⟨h2,_,h,?_,h5,h6,fun i hi=>?_⟩⟩
  ·rw[zaT d vs tr off i (by omega) hi]at hv2
   split at hv2
   ·exact(yg n vs).1 hv v (List.mem_of_getElem? hv2)
   ·exact hb.2 i v hi hv2
  ·rw[zai (by rw[hvl];omega)];exact h4
  ·rw[zac (by rw[hvl];omega),hvl,zmo (by omega) (by omega)]
   split
   ·rename_i hc
    have hlt:i - off<vs.length:=by omega
    rw[γL_get,List.getD_eq_getElem?_getD]
    simp[hlt]
   ·exact h7 i hi
 | row q z N I l=>exact hp1.elim
 | oa t q m d tr=>
  obtain⟨h1,rfl⟩:=hp1
  obtain⟨h2,cs,h3,h4,h5,h6⟩:=hi
  refine⟨cs,t,h3,by omega,rfl,fun i v hi hv2=>?_,fun hp' h=>⟨h2,_,h,?_,h5,fun i hi=>?_⟩⟩
  ·rw[zaT d vs tr off i (by omega) hi]at hv2
   split at hv2
   ·exact(yg n vs).1 hv v (List.mem_of_getElem? hv2)
   ·exact hb i v hi hv2
  ·rw[zai (by rw[hvl];omega)];exact h4
  ·rw[zac (by rw[hvl];omega),hvl]
   unfold zf7
   rw[zaT d vs tr off i (by omega) (by omega)]
   split
   ·rename_i hc
    have hlt:i - off<vs.length:=by omega
    rw[γL_get]
    simp[hlt]
   ·exact h6 i hi
 | map l=>exact hp1.elim
 | x l=>exact hp1.elim
 | dead=>exact hp1.elim
theorem zen {ρ:Rho} {h:H} (hs:Sat E ρ h w) {id:Ev.P} {o o':O} (ho:h.t.get id=some o) (hlo:h.lo.toNat<=id.toNat) {off:Nat} {vs:List V} (hp:zi9 o off vs o') (hv:bdL h.n.toNat vs) (h1:yP V.one vs=true) :
  ∃ w',(storeCells ⟨(ρ id).b,off,none⟩ (γL E ρ vs) 0).run P w=.ok () w'/\Sat E ρ (h.put id o') w'/\Ext ρ h w ρ (h.put id o') w':=by
 obtain⟨cs,t,g1,g2,g3,g4,g5⟩:=put_is (E:=E) hp (hs.obj id o ho) (hs.bd id o ho).2 hv
 have hst:=run_storeCells_at P (ρ id).b off t (γL E ρ vs) 0 cs w g1 (by rw[γL_length];omega) (fun y hy=>by
  rw[γL_eq]at hy
  obtain⟨u,hu,rfl⟩:=List.mem_map.1 hy
  exact one_γ E ρ ((zcD _ _).1 h1 u hu))
 simp only[Nat.add_zero]at hst
 obtain⟨k1,k2⟩:=zdk E (w':=w.setRow (ρ id).b (zaY cs off (γL E ρ vs))) hs ho (zvc hp) hlo o' g4 (g5 _ (setRow_heap _ _ _ _ _ _ g1)) (fun b hb=>setRow_other _ _ _ _ hb) (by simp[World.setRow]) rfl rfl rfl
 exact⟨_,hst,k1,k2⟩
theorem zfh {y:V} {id:Ev.P} {off n:Nat} {c:Option Nat} (h:zf6 y=some (id,off,n,c)) (ρ:Rho):∃ c',y.γ E ρ=.slice (some ⟨(ρ id).b,off,none⟩) n c'/\(∀ m,y.bd m->id.toNat<m):=by
 cases y <;> simp[zf6]at h
 ·obtain⟨rfl,rfl,rfl,rfl⟩:=h;exact⟨_,rfl,fun m hm=>hm⟩
 ·obtain⟨rfl,rfl,rfl,rfl⟩:=h;exact⟨_,rfl,fun m hm=>hm⟩
theorem zbL {ρ:Rho} {h:H} (hs:Sat E ρ h w) {id:Ev.P} {o:O} (ho:h.t.get id=some o) {off n:Nat} {l:List V} (hl:zcf o off n=some l) :
  l.length=n/\bdL h.n.toNat l/\∀ j v,(γL E ρ l)[j]? = some v->w.cell? ((⟨(ρ id).b,off,none⟩:Addr).add j)=some v:=by
 obtain⟨h1,h2⟩:=ziK hl
 by_cases h0:l.length=0
 ·have:l=[]:=List.length_eq_zero_iff.1 h0
  subst this
  exact⟨h1,trivial,fun j v hv=>by simp[γL]at hv⟩
 ·have hlive:o.own=true:=zbR (v:=l[0]'(by omega)) (i:=off+0) (by rw[h2 0 (by omega)];simp)
  obtain⟨cs,tt,hb,hcell⟩:=O.block (hs.obj id o ho) (hs.bd id o ho).2 hlive
  have hall:∀ j (hj:j<l.length),cs[off+j]? = some (l[j].γ E ρ)/\l[j].bd h.n.toNat:=fun j hj=>hcell (off+j) l[j] (by rw[h2 j (by omega)];simp[hj])
  refine⟨h1,?_,fun j v hv=>?_⟩
  ·rw[yg]
   intro v hv
   obtain⟨j,hj,rfl⟩:=List.mem_iff_getElem.1 hv
   exact(hall j hj).2
  ·have hj:j<l.length:=by
    have:=(List.getElem?_eq_some_iff.1 hv).1
    rwa [γL_length]at this
   rw[yp,zbl hb,(hall j hj).1]
   rw[γL_get]at hv
   simpa [hj] using hv
theorem zz6 {h:H} {esz:Nat} {y:V} {n:Nat} {l:List V} (hh:zwq h esz y=some (n,l)):∃ id off c o,zf6 y=some (id,off,n,c)/\h.t.get id=some o/\zcf o off (n*esz)=some l:=by
 unfold zwq at hh
 split at hh
 ·rename_i id off m c hsl
  split at hh
  ·rename_i o ho
   split at hh
   ·rename_i l' hl
    simp at hh
    obtain⟨rfl,rfl⟩:=hh
    rw[zJ]at ho
    exact⟨id,off,c,o,hsl,ho,hl⟩
   ·simp at hh
  ·simp at hh
 ·simp at hh
theorem zeK {n b:Nat} (h:zdn n b=true):n*b<=140737488355328/\n<=1099511627776:=by
 simpa [zdn] using h
theorem allB_γ {ρ:Rho} {l:List V} (h:∀ v∈l,v.one=true):∀ u∈γL E ρ l,u.oneCell'=true:=by
 intro u hu
 rw[γL_eq]at hu
 obtain⟨v,hv,rfl⟩:=List.mem_map.1 hu
 exact one_γ E ρ (h v hv)
theorem zfM {ρ:Rho} {n cap e old:Nat} {t:TypeId} {l:List V} {z:Array Value} {hp:Array Obj} (hz:z.size=e) (hl:l.length=n*e) (hc:n<=cap) (hm:cap<=maxLen)
  (h:hp[old]? = some (.cells ((γL E ρ l).toArray ++ Builtin.zeroCells z (cap - n)) t (0,0))):(O.vec t e n l).Is E ρ ⟨old,cap⟩ hp:=by
 refine⟨_,h,?_,hc,hm,hl,fun i hi=>?_⟩
 ·simp only[Array.size_append,List.size_toArray,γL_length,size_zeroCells,hz,hl]
  rw[<- Nat.add_mul];congr 1;omega
 ·rw[Array.getElem?_append_left (by simp[γL_length];omega)]
  simp[γL_get]
theorem app_run {C:Nat->TI} (hC:zej P C) {t e1 esz by_:Nat} {ez:List V} (ht:C t=.slc e1 esz by_ ez) (ty:TypeId) {h:H} {ρ:Rho} (hs:Sat E ρ h w) {x y:V} (hx:x.bd h.n.toNat)
  {k:KV} {e:Nat} (hr:appV h e1 esz by_ x y k e=0) (he:e≠0) :
  ∃ v h' ρ' w',(Builtin.append_ #[t,t] ty #[x.γ E ρ,y.γ E ρ]).run P w=.ok (v.γ E ρ') w'/\Sat E ρ' h' w'/\Ext ρ h w ρ' h' w'/\v.bd h'.n.toNat/\k v h'=0:=by
 obtain⟨hu,hty,hsz,hbys,⟨z,hz,hzc⟩,hzl,hzo⟩:=zax hC ht
 obtain⟨i,hi,hiz,his⟩:=zag (E:=E) hz ρ
 have hib:i.bytes=by_:=by rw[<- hbys];simp[zc7,hi]
 have his:i.size=esz:=by rw[his];exact hsz
 have hzs:(z.γ E ρ).cells.size=esz:=by rw[jx];simp[γL_length,hzc,hzl]
 unfold appV at hr
 split at hr
 ·exact absurd hr he
 rename_i n l hnew1
 obtain⟨id2,off2,c2,o2,hsl,ho2,hl2⟩:=zz6 hnew1
 obtain⟨c2',hyγ,_⟩:=zfh (E:=E) hsl ρ
 obtain⟨hlen,hbd,hcell⟩:=zbL hs ho2 hl2
 obtain⟨hn1,hr⟩:=zn hr he
 obtain⟨hone,hr⟩:=zn hr he
 have h0:0<n:=Nat.le_of_ble_eq_true hn1
 have hlen':(γL E ρ l).length=n*i.size:=by rw[γL_length,hlen,his]
 have hone:=(zcD _ _).1 hone
 cases x with
 | snil=>
  obtain⟨hroom,hr⟩:=zn hr he
  obtain⟨r1,r2⟩:=zeK hroom
  rw[ji]at hr
  have hrun:=run_append_nil (P:=P) w t ty e1 i (z.γ E ρ) hu hi hiz ⟨(ρ id2).b,off2,none⟩ n c2' (γL E ρ l) hlen' hcell h0 (by omega) (by rw[hib];omega)
  obtain⟨q1,q2⟩:=zaC E (w':=w.drew.alloc (.cells ((γL E ρ l).toArray ++ Builtin.zeroCells (z.γ E ρ).cells (grownCap w n 0 e1 - n)) e1)) hs (.vec e1 esz n l) hbd ⟨w.heap.size,grownCap w n 0 e1⟩ (fun _=>Nat.le_refl _)
   (zfM (old:=w.heap.size) hzs hlen (grownCap_ge _ _ _ _) (grownCap_le_maxLen _ _ _ _ (by simp only[maxLen];omega)) (by rw[zv];show (w.heap.push _)[w.heap.size]? = _;rw[Array.getElem?_push,if_pos rfl]))
   (fun b hb=>by rw[zv];show (w.heap.push _)[b]? = _;rw[Array.getElem?_push,if_neg (by omega)]) (by rw[zv];show w.heap.size<=(w.heap.push _).size;simp) rfl rfl rfl
  refine⟨_,_,_,_,?_,q1,q2,?_,hr⟩
  ·show (Builtin.append_ #[t,t] ty #[.slice none 0 0,y.γ E ρ]).run P w=_
   rw[hyγ,hrun]
   simp[V.γ,jP]
  ·simp[V.bd,H.add]
 | vec id m=>
  obtain⟨hm,hr⟩:=zn hr he
  obtain⟨hroom,hr⟩:=zn hr he
  obtain⟨r1,r2⟩:=zeK hroom
  split at hr
  rotate_left
  ·exact absurd hr he
  rename_i t' e' m' c0 ho
  obtain⟨hcond,hr1⟩:=zn hr he
  clear hr
  simp only[Bool.and_eq_true,Nat.beq_eq,Nat.ble_eq]at hcond
  obtain⟨⟨rfl,rfl⟩,hmm⟩:=hcond
  obtain⟨c,htk,hr2⟩:=zA hr1 he
  clear hr1
  obtain⟨hc0,hlt0⟩:=zfb _ _ _ htk
  rw[zJ]at ho
  rw[y9,ji,zaf]at hr2
  have hlo:=yD h id hm
  obtain⟨cs,v1,v2,v3,v4,_,v60⟩:=hs.obj id _ ho
  have v3:m<=(ρ id).c:=Nat.le_trans hmm v3
  have v5:c.length=m*esz:=by rw[hc0,List.length_take];omega
  have v6:∀ i,i<c.length->cs[i]? = (c[i]?).map (V.γ E ρ):=by
   intro i hi
   rw[v60 i (by omega),hc0,List.getElem?_take,if_pos (by omega)]
  have hbc:bdL h.n.toNat c:=by
   rw[yg,hc0]
   intro v hv
   exact(yg _ _).1 (hs.bd id _ ho).2 v (List.mem_of_mem_take hv)
  have hlc:(γL E ρ c).length=m*i.size:=by rw[γL_length,v5,his]
  have hcat:(c ++ l).length=(m+n)*esz:=by rw[List.length_append,v5,hlen,Nat.add_mul]
  have hbcat:bdL h.n.toNat (c ++ l):=by
   rw[yg]at hbc hbd ⊢
   intro v hv
   rcases List.mem_append.1 hv with hv | hv
   ·exact hbc v hv
   ·exact hbd v hv
  by_cases hfit:m+n<=(ρ id).c
  ·have hsz2:m*i.size+(γL E ρ l).length<=cs.size:=by
    rw[hlen',v2,his,<- Nat.add_mul];exact Nat.mul_le_mul_right _ hfit
   have hrun:=run_append_room (P:=P) w t ty e1 i hu hi (ρ id).b m (ρ id).c cs v1 ⟨(ρ id2).b,off2,none⟩ n c2' (γL E ρ l) hlen' hcell (allB_γ hone) hfit hsz2
   obtain⟨q1,q2⟩:=zy3 E (w':=w.setRow (ρ id).b (zaY cs (m*i.size) (γL E ρ l))) hs ho rfl hlo (.vec e1 esz (m+n) (c ++ l)) rfl hbcat (ρ id) rfl
    ⟨_,setRow_heap _ _ _ _ _ _ v1,by rw[zai hsz2];exact v2,hfit,v4,hcat,fun j hj=>by
     rw[zac hsz2]
     by_cases hj2:j<c.length
     ·have:¬ m*i.size<=j:=by rw[his];omega
      rw[if_neg (by omega),v6 j hj2,List.getElem?_append_left hj2]
     ·rw[if_pos (by rw[hlen',his,<- Nat.add_mul];rw[his]at *;omega),γL_get,List.getElem?_append_right (by omega),his,v5]⟩
    (fun b hb=>setRow_other _ _ _ _ hb) (by simp[World.setRow]) rfl rfl rfl
   refine⟨_,_,_,_,?_,q1,q2,?_,hr2⟩
   ·show (Builtin.append_ #[t,t] ty #[.slice (some ⟨(ρ id).b,0,none⟩) m (ρ id).c,y.γ E ρ]).run P w=_
    rw[hyγ,hrun]
    simp[V.γ,jP,zaY,H.put]
   ·simp[V.bd,H.add,H.put]
  ·have hold:∀ j v,(γL E ρ c)[j]? = some v->w.cell? ((⟨(ρ id).b,0,none⟩:Addr).add j)=some v:=by
    intro j v hv
    have hj:j<c.length:=by
     have:=(List.getElem?_eq_some_iff.1 hv).1
     rwa [γL_length]at this
    rw[yp,zbl v1,Nat.zero_add,v6 j hj,<- γL_get]
    exact hv
   have hrun:=run_append_grow (P:=P) w t ty e1 i (z.γ E ρ) hu hi hiz ⟨(ρ id).b,0,none⟩ m (ρ id).c (γL E ρ c) hlc hold ⟨(ρ id2).b,off2,none⟩ n c2' (γL E ρ l) hlen' hcell (by omega) (by omega)
    (growslice_fits (by omega) (by rw[hib];exact r1))
   obtain⟨p1,p2⟩:=zy4 E hs id _ ho hlo
   obtain⟨q1,q2⟩:=zaC E (w':=w.drew.alloc (.cells ((γL E ρ c).toArray ++ (γL E ρ l).toArray ++ Builtin.zeroCells (z.γ E ρ).cells (grownCap w (m+n) (ρ id).c e1 - (m+n))) e1)) p1 (.vec e1 esz (m+n) (c ++ l)) hbcat
    ⟨w.heap.size,grownCap w (m+n) (ρ id).c e1⟩ (fun _=>Nat.le_refl _)
    (zfM (old:=w.heap.size) hzs hcat (grownCap_ge _ _ _ _) (grownCap_le_maxLen _ _ _ _ (by simp only[maxLen];omega)) (by
     rw[zv];show (w.heap.push _)[w.heap.size]? = _
     rw[Array.getElem?_push,if_pos rfl,γL_app];simp))
    (fun b hb=>by rw[zv];show (w.heap.push _)[b]? = _;rw[Array.getElem?_push,if_neg (by omega)]) (by rw[zv];show w.heap.size<=(w.heap.push _).size;simp) rfl rfl rfl
   refine⟨_,_,_,_,?_,q1,p2.trans q2,?_,hr2⟩
   ·show (Builtin.append_ #[t,t] ty #[.slice (some ⟨(ρ id).b,0,none⟩) m (ρ id).c,y.γ E ρ]).run P w=_
    rw[hyγ,hrun]
    simp[V.γ,jP,H.put]
   ·simp[V.bd,H.add,H.put]
 | sl id off m c=>
  obtain⟨hmc,hr1⟩:=zn hr he
  have hmc:m=c:=by simpa using hmc
  subst hmc
  clear hr
  obtain⟨hroom,hr⟩:=zn hr1 he
  obtain⟨r1,r2⟩:=zeK hroom
  split at hr
  rotate_left
  ·exact absurd hr he
  rename_i o ho
  rw[zJ]at ho
  split at hr
  rotate_left
  ·exact absurd hr he
  rename_i c hl
  rw[ji,zaf]at hr
  obtain⟨v5,hbc,hold⟩:=zbL hs ho hl
  have hlc:(γL E ρ c).length=m*i.size:=by rw[γL_length,v5,his]
  have hcat:(c ++ l).length=(m+n)*esz:=by rw[List.length_append,v5,hlen,Nat.add_mul]
  have hbcat:bdL h.n.toNat (c ++ l):=by
   rw[yg]at hbc hbd ⊢
   intro v hv
   rcases List.mem_append.1 hv with hv | hv
   ·exact hbc v hv
   ·exact hbd v hv
  have hrun:=run_append_grow (P:=P) w t ty e1 i (z.γ E ρ) hu hi hiz ⟨(ρ id).b,off,none⟩ m m (γL E ρ c) hlc hold ⟨(ρ id2).b,off2,none⟩ n c2' (γL E ρ l) hlen' hcell (by omega) (by omega)
   (growslice_fits (by omega) (by rw[hib];exact r1))
  obtain⟨q1,q2⟩:=zaC E (w':=w.drew.alloc (.cells ((γL E ρ c).toArray ++ (γL E ρ l).toArray ++ Builtin.zeroCells (z.γ E ρ).cells (grownCap w (m+n) m e1 - (m+n))) e1)) hs (.vec e1 esz (m+n) (c ++ l)) hbcat
   ⟨w.heap.size,grownCap w (m+n) m e1⟩ (fun _=>Nat.le_refl _)
   (zfM (old:=w.heap.size) hzs hcat (grownCap_ge _ _ _ _) (grownCap_le_maxLen _ _ _ _ (by simp only[maxLen];omega)) (by
    rw[zv];show (w.heap.push _)[w.heap.size]? = _
    rw[Array.getElem?_push,if_pos rfl,γL_app];simp))
   (fun b hb=>by rw[zv];show (w.heap.push _)[b]? = _;rw[Array.getElem?_push,if_neg (by omega)]) (by rw[zv];show w.heap.size<=(w.heap.push _).size;simp) rfl rfl rfl
  refine⟨_,_,_,_,?_,q1,q2,?_,hr⟩
  ·show (Builtin.append_ #[t,t] ty #[.slice (some ⟨(ρ id).b,off,none⟩) m m,y.γ E ρ]).run P w=_
   rw[hyγ,hrun]
   simp[V.γ,jP]
  ·simp[V.bd,H.add]
 | _=>exact absurd hr he
theorem zvF {h:H} {t:TypeId} {esz:Nat} {x y:V} {p:Nat × O} (hh:zbQ h t esz x y=some p) :
  ∃ ix ox id c t' d z tr,x=.sl ix ox 0 0/\y=.sl id 0 p.1 c/\h.t.get id=some (.arr t' p.1 d z tr)/\esz=1/\1<=p.1/\p.2=.varr t p.1 d z tr:=by
 unfold zbQ at hh
 split at hh
 ·rename_i ix ox id off n c
  split at hh
  ·rename_i t' m d z tr ho
   rw[zJ]at ho
   cases hb:(Nat.beq off 0 && Nat.beq n m && Nat.beq esz 1 && Nat.ble 1 n) with
   | false=>rw[hb]at hh;simp[bc]at hh
   | true=>
    rw[hb]at hh
    simp only[bc,Option.some.injEq]at hh
    subst hh
    simp only[Bool.and_eq_true,Nat.beq_eq,Nat.ble_eq]at hb
    obtain⟨⟨⟨rfl,rfl⟩,rfl⟩,h1⟩:=hb
    exact⟨ix,ox,id,c,t',d,z,tr,rfl,rfl,ho,rfl,h1,rfl⟩
  ·simp at hh
 ·simp at hh
theorem zBJ {C:Nat->TI} (hC:zej P C) {t e1 esz by_:Nat} {ez:List V} (ht:C t=.slc e1 esz by_ ez) (ty:TypeId) {h:H} {ρ:Rho} (hs:Sat E ρ h w) {x y:V} (hx:x.bd h.n.toNat)
  {k:KV} {e:Nat} (hr:appW h e1 esz by_ x y k e=0) (he:e≠0) :
  ∃ v h' ρ' w',(Builtin.append_ #[t,t] ty #[x.γ E ρ,y.γ E ρ]).run P w=.ok (v.γ E ρ') w'/\Sat E ρ' h' w'/\Ext ρ h w ρ' h' w'/\v.bd h'.n.toNat/\k v h'=0:=by
 have hr0:bc (zwo x y) (k x h) (oc (zbQ h e1 esz x y) (fun p=>bc (zdn p.1 by_) (zas h p.2 (fun i h=>k (.vec i p.1) h)) e) (appV h e1 esz by_ x y k e))=0:=hr
 clear hr
 cases hny:zwo x y with
 | true=>
  rw[hny]at hr0
  have hk:k x h=0:=hr0
  obtain⟨hu,hty,hsz,hbys,⟨z,hz,hzc⟩,hzl,hzo⟩:=zax hC ht
  obtain⟨i,hi,hiz,his⟩:=zag (E:=E) hz ρ
  unfold zwo at hny
  split at hny
  ·split at hny
   ·rename_i id off m c
    have hmc:m<=c:=by simpa using hny
    refine⟨_,h,ρ,w,?_,hs,hs.refl E,hx,hk⟩
    have hnot:¬ c<m:=by omega
    simp[V.γ,Builtin.append_,run_underlying hu,sizeOf,typeInfo,hi,hiz,Builtin.lenOf,hmc,hnot,run_firstCells_none,Builtin.firstCells,storeCells]
   ·cases hny
  ·cases hny
 | false=>
 rw[hny]at hr0
 have hr:oc (zbQ h e1 esz x y) (fun p=>bc (zdn p.1 by_) (zas h p.2 (fun i h=>k (.vec i p.1) h)) e) (appV h e1 esz by_ x y k e)=0:=hr0
 clear hr0
 cases hq:zbQ h e1 esz x y with
 | none=>rw[hq]at hr;exact app_run hC ht ty hs hx hr he
 | some p=>
 rw[hq]at hr
 obtain⟨ix,ox,id,c,t',d,zz,tr,rfl,rfl,ho,rfl,h1,h2⟩:=zvF hq
 obtain⟨n,o⟩:=p
 simp only at h1 h2 ho
 subst h2
 obtain⟨hu,hty,hsz,hbys,⟨z,hz,hzc⟩,hzl,hzo⟩:=zax hC ht
 obtain⟨i,hi,hiz,his⟩:=zag (E:=E) hz ρ
 have hib:i.bytes=by_:=by rw[<- hbys];simp[zc7,hi]
 have his:i.size=1:=by rw[his];exact hsz
 have hzs:(z.γ E ρ).cells.size=1:=by rw[jx];simp[γL_length,hzc,hzl]
 obtain⟨hroom,hr⟩:=zn (x:=zdn n by_) hr he
 obtain⟨r1,r2⟩:=zeK hroom
 rw[ji]at hr
 obtain⟨hnd,cs,v1,v2,v3⟩:=hs.obj id _ ho
 have hbd:O.bd h.n.toNat (.varr e1 n d zz tr):=(hs.bd id _ ho).2
 have hnews:∀ j v,cs.toList[j]? = some v->w.cell? ((⟨(ρ id).b,0,none⟩:Addr).add j)=some v:=by
  intro j v hv
  rw[yp,zbl v1,Nat.zero_add]
  simpa using hv
 have hrun:=run_append_grow (P:=P) w t ty e1 i (z.γ E ρ) hu hi hiz ⟨(ρ ix).b,ox,none⟩ 0 0 [] (by simp) (by simp) ⟨(ρ id).b,0,none⟩ n c cs.toList (by simp[his,v2]) hnews (by omega) (by omega)
  (growslice_fits (by omega) (by rw[hib];simpa using r1))
 simp only[Nat.zero_add]at hrun
 have hcap:n<=grownCap w n 0 e1:=grownCap_ge _ _ _ _
 obtain⟨q1,q2⟩:=zaC E (w':=w.drew.alloc (.cells ((([]:List Value).toArray ++ cs.toList.toArray) ++ Builtin.zeroCells (z.γ E ρ).cells (grownCap w n 0 e1 - n)) e1)) hs (.varr e1 n d zz tr) hbd ⟨w.heap.size,grownCap w n 0 e1⟩ (fun _=>Nat.le_refl _)
  ⟨hnd,_,by rw[zv];show (w.heap.push _)[w.heap.size]? = _;rw[Array.getElem?_push,if_pos rfl],
   by simp only[Array.size_append,List.size_toArray,List.length_nil,Nat.zero_add,Array.length_toList,size_zeroCells,hzs,v2];omega,hcap,grownCap_le_maxLen _ _ _ _ (by simp only[maxLen];omega),
   fun j hj=>by
    have hj2:j<cs.size:=by omega
    have h3:=v3 j hj
    simp only[Array.toArray_toList]
    rw[Array.getElem?_append_left (by simpa using hj2)]
    simpa using h3⟩
  (fun b hb=>by rw[zv];show (w.heap.push _)[b]? = _;rw[Array.getElem?_push,if_neg (by omega)]) (by rw[zv];show w.heap.size<=(w.heap.push _).size;simp) rfl rfl rfl
 refine⟨_,_,_,_,?_,q1,q2,?_,hr⟩
 ·show (Builtin.append_ #[t,t] ty #[.slice (some ⟨(ρ ix).b,ox,none⟩) 0 0,.slice (some ⟨(ρ id).b,0,none⟩) n c]).run P w=_
  rw[hrun]
  simp[V.γ,jP]
 ·simp[V.bd,H.add]
theorem zei (p:V->Bool):∀ (tr:Tr V),zf1 p tr=true->∀ (d i:Nat) (v:V),tr.get d i=some v->p v=true
 | .nil,_,d,i,v,h=>by rw[Tr.get_nil]at h;simp at h
 | .leaf a,h,d,i,v,hv=>by
  cases d with
  | zero => have hv : some a = some v := hv
            cases hv;exact h
  | succ d=>rw[Tr.get_succ]at hv;simp at hv
 | .node l r,h,d,i,v,hv=>by
  have h:bc (zf1 p l) (zf1 p r) false=true:=h
  cases hl:zf1 p l with
  | false=>rw[hl]at h;exact absurd h (by simp[bc])
  | true=>
   rw[hl]at h
   have hr:zf1 p r=true:=h
   cases d with
   | zero => have hv : none = some v := hv
             cases hv
   | succ d=>
    rw[Tr.get_succ]at hv
    simp only at hv
    split at hv
    ·exact zei p l hl d _ v hv
    ·exact zei p r hr d _ v hv
theorem zdm {t t' ty elem:TypeId} {i:TypeInfo} (hu:P.underlying t=some (.slice elem)) (hi:P.info? elem=some i) {d a:Addr} {dLen dCap sLen sCap:Nat} {cs:List Value} {w':World}
  (hn:cs.length=Nat.min sLen dLen*i.size) (hsrc:∀ j v,cs[j]? = some v->w.cell? (a.add j)=some v) (hst:(storeCells d cs 0).run P w=.ok () w') :
  (Builtin.copy_ #[t,t'] ty #[.slice (some d) dLen dCap,.slice (some a) sLen sCap]).run P w=.ok (goInt (Nat.min sLen dLen)) w':=by
 have hl:=run_loadCells_list (P:=P) w a cs hsrc
 simp[Builtin.copy_,run_underlying hu,Builtin.lenOf,Builtin.firstCells,sizeOf,typeInfo,hi,<- hn,hl,hst]
theorem zul {C:Nat->TI} (hC:zej P C) {t t' e1 esz by_:Nat} {ez:List V} (ht:C t=.slc e1 esz by_ ez) (ty:TypeId) {h:H} {ρ:Rho} (hs:Sat E ρ h w) {x y:V} {o o2:O} {id id2:Ev.P} {off n off2 n2:Nat} {c c2:Option Nat}
  (hx:zf6 x=some (id,off,n,c)) (hy:zf6 y=some (id2,off2,n2,c2)) (ho:h.t.get id=some o) (ho2:h.t.get id2=some o2) (hlo:h.lo.toNat<=id.toNat)
  {k:KV} {e:Nat} (hr:cpyO o o2 id off n off2 n2 esz h k e=0) (he:e≠0) :
  ∃ v h' ρ' w',(Builtin.copy_ #[t,t'] ty #[x.γ E ρ,y.γ E ρ]).run P w=.ok (v.γ E ρ') w'/\Sat E ρ' h' w'/\Ext ρ h w ρ' h' w'/\v.bd h'.n.toNat/\k v h'=0:=by
 obtain⟨hu,hty,hsz,hbys,⟨z,hz,hzc⟩,hzl,hzo⟩:=zax hC ht
 obtain⟨i,hi,hiz,his⟩:=zag (E:=E) hz ρ
 have his:i.size=esz:=by rw[his];exact hsz
 obtain⟨c',hxγ,_⟩:=zfh (E:=E) hx ρ
 obtain⟨c2',hyγ,_⟩:=zfh (E:=E) hy ρ
 unfold cpyO at hr
 split at hr
 ·rename_i l hl
  obtain⟨hone,hr⟩:=zn hr he
  obtain⟨o',hp,hr⟩:=zlM hr he
  rw[y9]at hr
  obtain⟨hlen,hbd,hcell⟩:=zbL hs ho2 hl
  obtain⟨w',k1,k2,k3⟩:=zen (P:=P) hs ho hlo hp hbd hone
  refine⟨.i .i64 (Nat.min n n2),_,ρ,w',?_,k2,k3,trivial,hr⟩
  have hmin:Nat.min n n2=Nat.min n2 n:=Nat.min_comm _ _
  rw[hxγ,hyγ,zdm hu hi (by rw[γL_length,hlen,his,hmin]) hcell k1,hmin]
  simp[V.γ,goInt]
 ·exact absurd hr he
theorem cpy_run {C:Nat->TI} (hC:zej P C) {t t' e1 esz by_:Nat} {ez:List V} (ht:C t=.slc e1 esz by_ ez) (ty:TypeId) {h:H} {ρ:Rho} (hs:Sat E ρ h w) {x y:V}
  {k:KV} {e:Nat} (hr:cpyV h esz x y k e=0) (he:e≠0) :
  ∃ v h' ρ' w',(Builtin.copy_ #[t,t'] ty #[x.γ E ρ,y.γ E ρ]).run P w=.ok (v.γ E ρ') w'/\Sat E ρ' h' w'/\Ext ρ h w ρ' h' w'/\v.bd h'.n.toNat/\k v h'=0:=by
 unfold cpyV at hr
 split at hr
 rotate_left
 ·exact absurd hr he
 rename_i id off n c id2 off2 n2 c2 hx hy
 obtain⟨hm,hr⟩:=zn hr he
 have hlo:=yD h id hm
 split at hr
 rotate_left
 ·exact absurd hr he
 rename_i o o2 ho ho2
 rw[zJ]at ho ho2
 split at hr
 ·rename_i t1 a d z tr t2 a2 d2 z2 tr2
  rw[yG]at hr
  cases hcond:(Nat.beq n a && Nat.beq n2 a2 && Nat.beq n n2 && Nat.beq off 0 && Nat.beq off2 0 && Nat.beq esz 1 && V.one z2 && zf1 V.one tr2) with
  | false=>rw[hcond]at hr;exact zul hC ht ty hs hx hy ho ho2 hlo hr he
  | true=>
   rw[hcond]at hr
   have hr:jL h id (.arr t1 a d2 z2 tr2) (fun h=>k (.i .i64 n) h)=0:=hr
   simp only[Bool.and_eq_true,Nat.beq_eq]at hcond
   obtain⟨⟨⟨⟨⟨⟨⟨rfl,rfl⟩,rfl⟩,rfl⟩,rfl⟩,hesz⟩,hz1⟩,htr⟩:=hcond
   rw[y9]at hr
   obtain⟨hu,hty,hsz,hbys,⟨z',hz,hzc⟩,hzl,hzo⟩:=zax hC ht
   obtain⟨i,hi,hiz,his⟩:=zag (E:=E) hz ρ
   have his:i.size=1:=by rw[his,hsz];exact hesz
   obtain⟨c',hxγ,_⟩:=zfh (E:=E) hx ρ
   obtain⟨c2',hyγ,_⟩:=zfh (E:=E) hy ρ
   obtain⟨g1,cs,g2,g3,g4⟩:=hs.obj id _ ho
   obtain⟨f1,cs2,f2,f3,f4⟩:=hs.obj id2 _ ho2
   have hbd2:=(hs.bd id2 _ ho2).2
   have hlen:(cs2.toList).length=n:=by simpa using f3
   have hvs:∀ (j:Nat) (v:Value),cs2.toList[j]? = some v->∃ u:V,u.one=true/\v=u.γ E ρ:=by
    intro j v hv
    have hj:j<n:=by rw[<- hlen];exact(List.getElem?_eq_some_iff.1 hv).1
    have h5:=f4 j hj
    rw[<- Array.getElem?_toList,hv]at h5
    refine⟨yH tr2 d2 z2 j,?_,Option.some.inj h5⟩
    unfold yH
    cases hg:tr2.get d2 j with
    | none=>exact hz1
    | some v=>exact zei _ _ htr _ _ _ hg
   have hst:=run_storeCells_at P (ρ id).b 0 t1 cs2.toList 0 cs w g2 (by rw[hlen,g3];omega) (fun y hy=>by
    obtain⟨j,hj,rfl⟩:=List.mem_iff_getElem.1 hy
    obtain⟨u,hu1,hu2⟩:=hvs j _ (List.getElem?_eq_getElem hj)
    rw[hu2];exact one_γ E ρ hu1)
   have hst:(storeCells ⟨(ρ id).b,0,none⟩ cs2.toList 0).run P w=.ok () (w.setRow (ρ id).b (zaY cs 0 cs2.toList)):=by
    unfold zaY;exact hst
   have hfit:0+(cs2.toList).length<=cs.size:=by rw[hlen,g3];omega
   obtain⟨k1,k2⟩:=zdk E (w':=w.setRow (ρ id).b (zaY cs 0 cs2.toList)) hs ho rfl hlo (.arr t1 n d2 z2 tr2) hbd2
    ⟨f1,_,setRow_heap _ _ _ _ _ _ g2,by rw[zai hfit];exact g3,fun j hj=>by
     rw[zac hfit,if_pos ⟨Nat.zero_le _,by rw[hlen];omega⟩,Nat.sub_zero,Array.getElem?_toList];exact f4 j hj⟩
    (fun b hb=>setRow_other _ _ _ _ hb) (by simp[World.setRow]) rfl rfl rfl
   refine⟨.i .i64 n,_,ρ,_,?_,k1,k2,trivial,hr⟩
   rw[hxγ,hyγ,zdm hu hi (by rw[hlen,his];simp) (fun j v hv=>by rw[yp,zbl f2,Nat.zero_add,<- Array.getElem?_toList];exact hv) hst]
   simp[V.γ,goInt]
 ·exact zul hC ht ty hs hx hy ho ho2 hlo hr he
theorem zAi (x:Value) {n i:Nat} (h:i<n):(madeCells #[x] n)[i]? = some x:=by
 simp[madeCells,h,Nat.mod_one]
set_option maxHeartbeats 1000000 in
def InsOk (kk:KK) (key v:V) (l l':List (V × V)):Prop:=∃ r,yt kk key l 0=some r/\match r with
 | none=>l'=l ++ [(key,v)]
 | some (j,_)=>spl l j [(key,v)]=some l'
theorem ins_ok {kk:KK} {m k x:Od} {fr:Fr} {h:H} {kc:KV} {e:Nat} (hr:eIns kk m k x fr h kc e=0) (he:e≠0) :
  ∃ id key v l l',od m fr=some (.mp id)/\od k fr=some key/\od x fr=some v/\ja kk key=true/\h.t.get id=some (.map l)/\zaI h id=true/\InsOk kk key v l l'/\kc (.tup []) (h.put id (.map l'))=0:=by
 unfold eIns at hr
 split at hr
 ·rename_i id g1
  obtain⟨key,g2,hr⟩:=zA hr he
  obtain⟨v,g3,hr⟩:=zA hr he
  obtain⟨g4,hr⟩:=zn hr he
  obtain⟨g5,hr⟩:=zn hr he
  obtain⟨l,g6,hr⟩:=zeF hr he
  rw[zJ]at g6
  obtain⟨r,g7,hr⟩:=zA hr he
  split at hr
  ·rw[y9,zaf]at hr
   exact⟨id,key,v,l,_,g1,g2,g3,g4,g6,g5,⟨none,g7,rfl⟩,hr⟩
  ·rename_i j b
   obtain⟨l',g8,hr⟩:=zA hr he
   rw[y9]at hr
   exact⟨id,key,v,l,l',g1,g2,g3,g4,g6,g5,⟨some (j,b),g7,g8⟩,hr⟩
 ·exact absurd hr he
theorem zwD {Y:Ty} (hY:TyOk P Y) {t:TypeId} {kk:KK} {z:V} (hmp:Y.mp t=some (kk,z)) {ρ:Rho} {h:H} (hs:Sat E ρ h w) {id:Ev.P} {l l':List (V × V)} {key v:V} (ho:h.t.get id=some (.map l)) (hlo:h.lo.toNat<=id.toNat)
  (hkb:ja kk key=true) (b1:key.bd h.n.toNat) (b2:v.bd h.n.toNat) (hl:InsOk kk key v l l') :
  ∃ w',(Instr.mapUpdate t (.map (some (ρ id).b)) (key.γ E ρ) (v.γ E ρ)).run P w=.ok () w'/\Sat E ρ (h.put id (.map l')) w'/\Ext ρ h w ρ (h.put id (.map l')) w':=by
 obtain⟨kt,et,hu,hK,hz⟩:=hY.mp t kk z hmp
 obtain⟨r,hr,hl⟩:=hl
 obtain⟨es,e1,e2,e3⟩:=hs.obj id _ ho
 have hbd:=(hs.bd id _ ho).2
 obtain⟨lp,hpm,e2⟩:=zcu e2 l rfl
 have hg:=MapKept.run_getObj_map (P:=P) e1
 have hc:=hK.check E ρ w false key hkb
 have hlt:=yv e1
 have put:∀ (es':Array MapEntry),ztT E ρ l' es'->(∀ p∈l',p.1.bd h.n.toNat/\p.2.bd h.n.toNat) ->
   Sat E ρ (h.put id (.map l')) { w with heap:=w.heap.setIfInBounds (ρ id).b (.map es' es'.size) }/\Ext ρ h w ρ (h.put id (.map l')) { w with heap:=w.heap.setIfInBounds (ρ id).b (.map es' es'.size) }:=by
  intro es' h1 h2
  refine zdk E hs ho rfl hlo (.map l') h2 ⟨es',?_,h1⟩ (fun b hb=>?_) (by simp) rfl rfl rfl
  ·show (w.heap.setIfInBounds (ρ id).b (.map es' es'.size))[(ρ id).b]? = _
   rw[Array.getElem?_setIfInBounds,if_pos rfl,if_pos hlt]
  ·show (w.heap.setIfInBounds (ρ id).b (.map es' es'.size))[b]? = _
   rw[Array.getElem?_setIfInBounds,if_neg (fun e=>hb e.symm)]
 cases r with
 | none=>
  have hl:l'=l ++ [(key,v)]:=hl
  subst hl
  have hf0:=hK.find E ρ w key lp none es.toList hkb (zb1 hpm hr) e2
  have h1:ztT E ρ (l ++ [(key,v)]) (es.push ⟨key.γ E ρ,v.γ E ρ,es.size⟩):=by
   refine⟨?_,fun i e he=>?_⟩
   ·rw[Array.toList_push,List.map_append,e2,List.map_append]
    exact(hpm.map _).append_right _
   rw[Array.getElem?_push]at he
   split at he
   ·rename_i hi
    cases he
    exact hi.symm
   ·exact e3 i e he
  obtain⟨p1,p2⟩:=put _ h1 (fun p hp=>by
   rcases List.mem_append.1 hp with hp | hp
   ·exact hbd p hp
   ·obtain rfl:=List.mem_singleton.1 hp
    exact⟨b1,b2⟩)
  have jL:=MapKept.run_setObj_map (P:=P) (.map (es.push ⟨key.γ E ρ,v.γ E ρ,es.size⟩) (es.size+1)) e1
  refine⟨_,?_,p1,p2⟩
  simp[Instr.mapUpdate,run_underlying hu,hg,hc,hf0,jL]
 | some q=>
  obtain⟨j0,b⟩:=q
  have hl:spl l j0 [(key,v)]=some l':=hl
  obtain⟨l1,a1,l2,m1,m2,q1,hj0,q2,hpm2,q3,q4,hfp⟩:=zb0 hpm hr
  have hf0:=hK.find E ρ w key lp _ es.toList hkb hfp e2
  have hak:a1=key:=(key_eq hkb q4 q3).symm
  subst hak
  generalize hj:m1.length=j at hf0
  have hesj:∃ e0,es[j]? = some e0/\e0.key=a1.γ E ρ:=by
   have:=congrArg (fun x=>x[j]?) e2
   simp only[List.getElem?_map,q2,<- hj,List.getElem?_append_right (Nat.le_refl _),Nat.sub_self,List.getElem?_cons_zero,Option.map_some]at this
   rw[hj]at this
   cases h0:es.toList[j]? with
   | none=>rw[h0]at this;cases this
   | some e0=>
    rw[h0]at this
    simp only[Option.map_some,Option.some.injEq,Prod.mk.injEq]at this
    exact⟨e0,by simpa using h0,this.1⟩
  obtain⟨e0,g1,g2⟩:=hesj
  have hl':l'=l1 ++ (a1,v)::l2:=by
   apply List.ext_getElem?
   intro i
   rw[zdg _ _ _ _ hl,q1,hj0]
   by_cases hij:l1.length=i
   ·subst hij;simp
   ·rw[if_neg (by simp;omega)]
    rcases Nat.lt_or_ge i l1.length with h5 | h5
    ·rw[List.getElem?_append_left h5,List.getElem?_append_left h5]
    ·rw[List.getElem?_append_right h5,List.getElem?_append_right h5]
     rw[show i - l1.length=(i - l1.length - 1)+1 by omega]
     simp
  have h1:ztT E ρ l' (es.modify j fun e=>{ e with key:=a1.γ E ρ,val:=v.γ E ρ }):=by
   refine⟨?_,fun i e he=>?_⟩
   ·have h5:(es.modify j fun e=>{ e with key:=a1.γ E ρ,val:=v.γ E ρ }).toList.map (fun e=>(e.key,e.val))=(m1 ++ (a1,v)::m2).map (fun p=>(p.1.γ E ρ,p.2.γ E ρ)):=by
     apply List.ext_getElem?
     intro i
     have e2i:=congrArg (fun x=>x[i]?) e2
     simp only[List.getElem?_map]at e2i ⊢
     rw[Array.getElem?_toList,Array.getElem?_modify]
     by_cases hij:j=i
     ·subst hij
      rw[if_pos rfl,g1,<- hj]
      simp
     ·rw[if_neg hij]
      rw[Array.getElem?_toList]at e2i
      rw[e2i,q2]
      congr 1
      rcases Nat.lt_or_ge i m1.length with h5 | h5
      ·rw[List.getElem?_append_left h5,List.getElem?_append_left h5]
      ·rw[List.getElem?_append_right h5,List.getElem?_append_right h5]
       rw[show i - m1.length=(i - m1.length - 1)+1 by omega]
       simp
    rw[h5,hl']
    exact((List.perm_middle.trans (hpm2.cons _)).trans List.perm_middle.symm).map _
   ·rw[Array.getElem?_modify]at he
    split at he
    ·rename_i hij
     subst hij
     rw[g1]at he
     simp only[Option.map_some,Option.some.injEq]at he
     subst he
     exact e3 j e0 g1
    ·exact e3 i e he
  obtain⟨p1,p2⟩:=put _ h1 (fun p hp=>by
   rcases zv0 _ _ _ _ hl p hp with hp | hp
   ·exact hbd p hp
   ·obtain rfl:=List.mem_singleton.1 hp
    exact⟨b1,b2⟩)
  have jL:=MapKept.run_setObj_map (P:=P) (.map (es.modify j fun e=>{ e with key:=a1.γ E ρ,val:=v.γ E ρ }) es.size) e1
  have hst:=hK.stays E ρ w a1 hkb
  refine⟨_,?_,p1,p2⟩
  simp[Instr.mapUpdate,run_underlying hu,hg,hc,hf0,g1,g2,hst,jL]
theorem zwQ {Y:Ty} (hY:TyOk P Y) {o:Oper} {i:IOp} (hc:cOp Y o.op=some i) {fr:Fr} {h:H} {k:KV} {e:Nat} (hr:evI i fr h k e=0) (he:e≠0)
  {ρ:Rho} {a:Act} (hf:zw E ρ h.n.toNat fr a.tmps) (hs:Sat E ρ h w):∃ v h',zek E P o a ρ h w v h'/\k v h'=0:=by
 by_cases hst:zN i=true
 ·obtain⟨v,h1,h2,h3⟩:=ziZ hY hc hst hr he (Nat.le_refl _) hf hs
  exact⟨v,h,⟨ρ,w,_,h1,.inl rfl,hs,hs.refl E,h2⟩,h3⟩
 obtain⟨dst,op,ty,pos,aft,gd⟩:=o
 have hc0:=hc
 simp only at hc
 cases op <;> simp only[cOp]at hc
 case alloc t=>
  split at hc
  ·rename_i z hz
   simp at hc;subst hc
   obtain⟨x,hx,rfl,hb,_⟩:=zaB (E:=E) (w:=w) hY.ti hz ρ
   refine zlQ hs hr he ?_ (yO (Nat.zero_le _) _ hb) (by simp[V.bd])
   simp[execOp,Instr.alloc,hx,newVar,newRow,jx,V.γ,jP]
  ·simp at hc
 case box t x=>
  obtain⟨x',hx,rfl⟩:=yT hc
  obtain⟨v,hv,hr⟩:=zA hr he
  obtain⟨h1,h2⟩:=zq hf hx hv
  refine zlQ hs hr he ?_ (zap h2) (by simp[V.bd])
  simp[execOp,Instr.box,h1,newVar,newRow,jx,V.γ,jP]
 case buildSlice t n ps=>
  split at hc
  ·rename_i e1 s by1 z ht
   split at hc
   ·rename_i hn
    simp only[Bool.and_eq_true,Bool.or_eq_true,Nat.ble_eq]at hn
    split at hc
    ·rename_i ps' hps
     simp at hc;subst hc
     obtain⟨l,hl,hr⟩:=zA hr he
     obtain⟨hu,hty,hsz,_,⟨x,hx,hxz⟩,hzl,_⟩:=zax hY.ti ht
     obtain⟨h1,_⟩:=jE (w:=w) hty
     obtain⟨hzr,hzb⟩:=zav (E:=E) (w:=w) hx ρ
     have hzb:bdL h.n.toNat z:=by rw[<- hxz];exact zap (bd_mono (Nat.zero_le _) _ hzb)
     have hrb:bdL h.n.toNat (zdV n z):=by
      rw[yg]at hzb ⊢
      exact fun y hy=>hzb y (zzD n z y hy)
     obtain⟨h2,h3⟩:=zd8 hf s (fun i=>some (i*s,s)) (fun i=>rfl) ps.toList ps' (zdV n z) l hps hl hrb
     refine zlQ hs hr he ?_ h3 (by simp[V.bd])
     have hle:¬ (2 ^ 24<n*s):=by omega
     rcases Nat.eq_zero_or_pos n with h0 | h0
     ·subst h0
      have h2':Instr.fill (fun i=>some (i*s,s)) (Array.map (fun x=>(#[]:Array Value)[x % (#[]:Array Value).size]!) (Array.range (0*s))) (ps.toList.map fun (i,x)=>(i,a.eval x))=some (γL E ρ l).toArray:=by
       have h2:Instr.fill (fun i=>some (i*s,s)) (γL E ρ (zdV 0 z)).toArray (ps.toList.map fun (i,x)=>(i,a.eval x))=some (γL E ρ l).toArray:=h2
       rw[Nat.zero_mul]
       have h0:Array.range 0=#[]:=rfl
       simpa [zdV,γL,h0] using h2
      simp only[execOp,Instr.buildSlice,Sem.run_bind,run_underlying hu,Result.andThen_ok,h1,hsz]
      simp at h2'
      simp[h2',newRow,V.γ,jP]
     ·have hpos:¬ (n*s=0):=by
       rcases hn.2 with h | h
       ·omega
       ·simp at h;omega
      have hr:=repA_γ (E:=E) ρ n z (by
       rcases Nat.eq_zero_or_pos z.length with h0 | h0
       ·rw[<- hzl,h0]at hpos;omega
       ·exact h0)
      rw[hzl]at hr
      have h2':Instr.fill (fun i=>some (i*s,s)) (Array.map (fun x=>(γL E ρ z).toArray[x % (γL E ρ z).toArray.size]!) (Array.range (n*s))) (ps.toList.map fun (i,x)=>(i,a.eval x))=some (γL E ρ l).toArray:=by
       rw[hr];exact h2
      simp only[execOp,Instr.buildSlice,Sem.run_bind,run_underlying hu,Result.andThen_ok,h1,hsz]
      simp[hpos,hle,hzr,jx,hxz]
      simp at h2'
      simp[h2',newRow,V.γ,jP]
    ·simp at hc
   ·simp at hc
  ·simp at hc
 case store t x y=>
  split at hc
  ·rename_i z hz
   obtain⟨x',y',hx,hy,rfl⟩:=yB hc
   obtain⟨_,_,_,_,hsz,hszr,_⟩:=zaB (E:=E) (w:=w) hY.ti hz ρ
   have fin:∀ (id:Ev.P) (off:Nat) (v:V) (oo o':O),od x' fr=some (.ptr id off)->od y' fr=some v->h.t.get id=some oo->h.lo.toNat<=id.toNat->zi9 oo off v.cells o'->v.cells.length=len z->yP V.one v.cells=true->k (.tup []) (h.put id o')=0 ->
     ∃ v h',zek E P ⟨dst,.store t x y,ty,pos,aft,gd⟩ a ρ h w v h'/\k v h'=0:=by
    intro id off v oo o' h1 h2 h3 h4 h5 h6 h7 h8
    obtain⟨g1,g2⟩:=zq hf hx h1
    obtain⟨g3,g4⟩:=zq hf hy h2
    obtain⟨w',k1,k2,k3⟩:=zen (P:=P) hs h3 h4 h5 (zap g4) h7
    refine⟨.tup [],_,⟨ρ,w',.skip,?_,.inr ⟨rfl,rfl⟩,k2,k3,trivial⟩,h8⟩
    have hst:(storeVar t ⟨(ρ id).b,off,none⟩ (v.γ E ρ)).run P w=.ok () w':=by
     unfold storeVar
     have hs2:(v.γ E ρ).cells.size=yb P t:=by rw[jx];simp[γL_length,h6,yV,hsz]
     simp only[Sem.run_bind,hszr,Result.andThen_ok,hs2,ne_eq,not_true_eq_false,if_false]
     rw[jx]
     simpa using k1
    simp[execOp,g1,g3,V.γ,Instr.storeAt,Instr.sureAddr,hst]
   have hr:bc (Nat.beq (len z) 1) (eSt1 x' y') (eStN (len z) x' y') fr h k e=0:=hr
   cases hb:Nat.beq (len z) 1 with
   | true=>
    rw[hb]at hr
    have hr:eSt1 x' y' fr h k e=0:=hr
    have h1:len z=1:=by simpa using hb
    obtain⟨id,off,hp,hr⟩:=zbC hr he
    obtain⟨v,hv,hr⟩:=zA hr he
    obtain⟨hm,hr⟩:=zn hr he
    obtain⟨oo,ho,hr⟩:=zA hr he
    obtain⟨hone,hr⟩:=zn hr he
    obtain⟨o',hp',hr⟩:=zwi hr he
    rw[y9]at hr
    rw[zJ]at ho
    have hcl:=ziJ hone
    exact fin id off v oo o' hp hv ho (yD h id hm) (by rw[hcl];exact hp') (by rw[hcl,h1];rfl) (by rw[hcl];simp[yP,allC,hone]) hr
   | false=>
    rw[hb]at hr
    have hr:eStN (len z) x' y' fr h k e=0:=hr
    obtain⟨id,off,hp,hr⟩:=zbC hr he
    obtain⟨v,hv,hr⟩:=zA hr he
    obtain⟨hm,hr⟩:=zn hr he
    obtain⟨oo,ho,hr⟩:=zA hr he
    obtain⟨hlen,hr⟩:=zn hr he
    obtain⟨hone,hr⟩:=zn hr he
    obtain⟨o',hp',hr⟩:=zlM hr he
    rw[y9]at hr
    rw[zJ]at ho
    exact fin id off v oo o' hp hv ho (yD h id hm) hp' (by simpa [yV] using hlen) hone hr
  ·simp at hc
 case makeSlice t l c=>
  split at hc
  ·rename_i e1 esz by1 z ht
   obtain⟨x',y',hx,hy,rfl⟩:=yB hc
   have hr:eMsl e1 z esz by1 x' y' fr h k e=0:=hr
   unfold eMsl at hr
   split at hr
   ·rename_i k1 m k2 cc g1 g2
    obtain⟨h1,_⟩:=zq hf hx g1
    obtain⟨h2,_⟩:=zq hf hy g2
    obtain⟨hcond,hr2⟩:=zn hr he
    simp only[Bool.and_eq_true,Nat.beq_eq,Nat.ble_eq]at hcond
    obtain⟨⟨⟨rfl,hone⟩,hmc⟩,hby⟩:=hcond
    have h4:cc<=65536:=by
     cases h3:Nat.ble cc 8192 with
     | true => have : cc <= 8192 := by simpa using h3
               omega
     | false=>
      rw[h3]at hr2
      obtain⟨h3,_⟩:=zn (show bc (Nat.ble cc 65536) _ e=0 from hr2) he
      simpa using h3
    obtain⟨hu,hty,hsz,hbys,⟨x,hx2,hxz⟩,_⟩:=zax hY.ti ht
    obtain⟨i,hi,hiz,his⟩:=zag (E:=E) hx2 ρ
    have hib:i.bytes=by1:=by rw[<- hbys];simp[zc7,hi]
    have hzb:z.bd h.n.toNat:=by
     have:=zap (zav (E:=E) (w:=w) hx2 ρ).2
     rw[hxz]at this
     exact bd_mono (Nat.zero_le _) _ this.1
    have hby2:(i.bytes:Int)*(cc:Int)<=281474976710656:=by rw[hib,<- Int.natCast_mul];exact Int.ofNat_le.2 hby
    have h63:(cc:Int)<=9223372036854775807:=by omega
    have hrun:=run_make (P:=P) w t e1 i (x.γ E ρ) hu hi hiz k1 k2 (m:Int) (cc:Int) (Int.natCast_nonneg _) (Int.ofNat_le.2 hmc) hby2 h63
    have hcells:madeCells (x.γ E ρ).cells ((cc:Int).toNat*i.size)=madeCells #[z.γ E ρ] cc:=by
     have e1:i.size=1:=by rw[his];exact hsz
     rw[jx,hxz,e1,Int.toNat_natCast,Nat.mul_one];rfl
    rw[hcells]at hrun
    have isArr:∀ d,cc<=2 ^ d->(O.arr e1 cc d z .nil).Is E ρ ⟨w.heap.size,0⟩ (w.alloc (.cells (madeCells #[z.γ E ρ] cc) e1)).heap:=by
     intro d hd
     refine⟨hd,_,by show (w.heap.push _)[w.heap.size]? = _;rw[Array.getElem?_push,if_pos rfl],by simp[madeCells],fun i hi=>?_⟩
     have e2:yH (Tr.nil:Tr V) d z i=z:=by simp[yH,Tr.get_nil]
     rw[e2]
     exact zAi _ hi
    have fin:∀ d,cc<=2 ^ d->zas h (.arr e1 cc d z .nil) (fun i h=>k (.sl i 0 m cc) h)=0->∃ v h',zek E P ⟨dst,.makeSlice t l c,ty,pos,aft,gd⟩ a ρ h w v h'/\k v h'=0:=by
     intro d hd hr
     rw[ji]at hr
     obtain⟨q1,q2⟩:=zaC E (w':=w.alloc (.cells (madeCells #[z.γ E ρ] cc) e1)) hs (.arr e1 cc d z .nil) ⟨hzb,fun i v _ hv=>by rw[Tr.get_nil]at hv;simp at hv⟩ ⟨w.heap.size,0⟩ (fun _=>Nat.le_refl _) (isArr d hd)
      (fun b hb=>by rw[zv,Array.getElem?_push,if_neg (by omega)]) (by simp[zv]) rfl rfl rfl
     refine⟨_,_,⟨_,_,.value (.slice (some ⟨w.heap.size,0,none⟩) m cc),?_,.inl ?_,q1,q2,?_⟩,hr⟩
     ·simp only[execOp,h1,h2,V.γ,Int.ofNat_eq_natCast,Sem.run_bind,hrun,Result.andThen_ok]
      simp
     ·simp[V.γ,jP]
     ·simp[V.bd,H.add]
    cases h3:Nat.ble cc 8192 with
    | true=>
     rw[h3]at hr2
     exact fin 13 (by have : cc <= 8192 := by simpa using h3
                      omega) hr2
    | false=>
     rw[h3]at hr2
     obtain⟨h3,hr2⟩:=zn (show bc (Nat.ble cc 65536) _ e=0 from hr2) he
     exact fin 16 (by omega) hr2
   ·exact absurd hr he
  ·simp at hc
 case call cl=>
  split at hc
  ·simp at hc
  ·rename_i b hcal
   have bin:∀ {x y:Operand} {r:Value} {w':World},cl.args.toList=[x,y]->(∀ cs,(builtin b cl.argTypes ty cs #[a.eval x,a.eval y]).run P w=.ok (.value r) w') ->
     (execOp a.eval ⟨dst,.call cl,ty,pos,aft,gd⟩).run P w=.ok (.value r) w':=by
    intro x y r w' hxs hrun
    have harg:cl.args.map a.eval=#[a.eval x,a.eval y]:=Array.toList_inj.1 (by rw[Array.toList_map,hxs];rfl)
    simp[execOp,resolve,hcal,invoke,harg,hrun]
   split at hc
   ·rename_i t x hty hxs
    split at hc
    ·obtain⟨x',hx,rfl⟩:=yT hc;simp[zN,IOp.go]at hst
    ·simp at hc;subst hc;simp[zN,IOp.go]at hst
    ·split at hc
     ·simp at hc;subst hc;simp[zN,IOp.go,zbn]at hst
     ·simp at hc
   ·obtain⟨x',y',_,_,rfl⟩:=yB hc;simp[zN,IOp.go]at hst
   ·obtain⟨x',y',_,_,rfl⟩:=yB hc;simp[zN,IOp.go]at hst
   ·rename_i t t' x y hty hxs
    have hty0:cl.argTypes=#[t,t']:=Array.toList_inj.1 (by rw[hty])
    split at hc
    ·rename_i e1 esz by1 z ht
     split at hc
     ·rename_i htt
      have htt:t=t':=by simpa using htt
      subst htt
      obtain⟨x',y',hx,hy,rfl⟩:=yB hc
      have hr:eApp e1 esz by1 x' y' fr h k e=0:=hr
      obtain⟨x1,hx1,hr⟩:=zA hr he
      obtain⟨y1,hy1,hr⟩:=zA hr he
      obtain⟨q1,q2⟩:=zq hf hx hx1
      obtain⟨q3,q4⟩:=zq hf hy hy1
      obtain⟨v,h',ρ',w',r1,r2,r3,r4,r5⟩:=zBJ (P:=P) hY.ti ht ty hs q2 hr he
      refine⟨v,h',⟨ρ',w',_,bin hxs (fun cs=>?_),.inl rfl,r2,r3,r4⟩,r5⟩
      rw[hty0,q1,q3];simp[builtin,r1]
     ·simp at hc
    ·simp at hc
   ·rename_i t t' x y hty hxs
    have hty0:cl.argTypes=#[t,t']:=Array.toList_inj.1 (by rw[hty])
    split at hc
    ·rename_i e1 esz by1 z e2 esz2 by2 z2 ht ht2
     split at hc
     ·obtain⟨x',y',hx,hy,rfl⟩:=yB hc
      have hr:eCpy esz x' y' fr h k e=0:=hr
      obtain⟨x1,hx1,hr⟩:=zA hr he
      obtain⟨y1,hy1,hr⟩:=zA hr he
      obtain⟨q1,q2⟩:=zq hf hx hx1
      obtain⟨q3,q4⟩:=zq hf hy hy1
      obtain⟨v,h',ρ',w',r1,r2,r3,r4,r5⟩:=cpy_run (P:=P) (t':=t') hY.ti ht ty hs hr he
      refine⟨v,h',⟨ρ',w',_,bin hxs (fun cs=>?_),.inl rfl,r2,r3,r4⟩,r5⟩
      rw[hty0,q1,q3];simp[builtin,r1]
     ·simp at hc
    ·simp at hc
   ·simp at hc
  ·simp at hc
 case makeFunc f first caps=>
  split at hc
  ·simp at hc;subst hc;simp[zN,IOp.go]at hst
  ·simp at hc
 case makeMap t r=>
  cases r with
  | some _=>simp at hc
  | none=>
   simp at hc;subst hc
   have hr:zas h (.map []) (fun i h=>k (.mp i) h)=0:=hr
   rw[ji]at hr
   obtain⟨q1,q2⟩:=zaC E (w':=w.alloc (.map #[] 0)) hs (.map []) (fun p hp=>by cases hp) ⟨w.heap.size,0⟩ (fun _=>Nat.le_refl _) ⟨#[],by show (w.heap.push _)[w.heap.size]? = _;rw[Array.getElem?_push,if_pos rfl];rfl,List.Perm.refl _,fun i e he=>by simp at he⟩
    (fun b hb=>by rw[zv,Array.getElem?_push,if_neg (by omega)]) (by simp[zv]) rfl rfl rfl
   refine⟨_,_,⟨_,_,.value (.map (some w.heap.size)),?_,.inl ?_,q1,q2,?_⟩,hr⟩
   ·simp[execOp,Instr.makeMap]
   ·simp[V.γ,jP]
   ·simp[V.bd,H.add]
 case lookup t m kx ok=>
  split at hc
  ·simp at hc;subst hc;simp[zN,IOp.go,zbn]at hst
  ·simp at hc
 case sliceToArrayPointer t x=>
  split at hc
  ·simp at hc;subst hc;simp[zN,IOp.go,zbn]at hst
  ·simp at hc
 case entry i=>
  split at hc
  ·simp at hc;subst hc;simp[zN,IOp.go,zbn]at hst
  ·simp at hc
 case range t m=>
  split at hc
  ·rename_i z m' hmp hm
   simp at hc;subst hc
   obtain⟨kt,et,hu,_⟩:=hY.mp t z.1 z.2 hmp
   have hr:eRng m' fr h k e=0:=hr
   unfold eRng at hr
   split at hr
   ·rename_i g1
    obtain⟨h1,_⟩:=zq hf hm g1
    rw[ji]at hr
    obtain⟨q1,q2⟩:=zaC E (w':=w.alloc (.mapIter none 0 #[] 0)) hs (.x (.it none 0 [] 0)) (fun p hp=>by cases hp) ⟨w.heap.size,0⟩ (fun _=>Nat.le_refl _) (by show (w.heap.push _)[w.heap.size]? = _;simp)
     (fun b hb=>by rw[zv,Array.getElem?_push,if_neg (by omega)]) (by simp[zv]) rfl rfl rfl
    refine⟨_,_,⟨_,_,.value (.pointer (some ⟨w.heap.size,0,none⟩)),?_,.inl ?_,q1,q2,?_⟩,hr⟩
    ·simp[execOp,h1,V.γ,run_range_nilMap w t kt et hu]
    ·simp[V.γ,jP]
    ·simp[V.bd,H.add]
   ·rename_i id g1
    obtain⟨h1,_⟩:=zq hf hm g1
    obtain⟨l,hx,hr⟩:=zA hr he
    rw[zJ]at hx
    obtain⟨o0,hg,hlive,his,hbd⟩:=zd9 hx
    obtain⟨es,e1,e2⟩:=his ρ _ _ (hs.obj id _ hg)
    have hn0:=zcY e2
    rw[ji]at hr
    obtain⟨q1,q2⟩:=zaC E (w':=w.alloc (.mapIter (some (ρ id).b) es.size #[] es.size)) hs (.x (.it (some id) (len l) [] (len l))) (fun p hp=>by cases hp;exact(hs.bd id _ hg).1) ⟨w.heap.size,0⟩ (fun _=>Nat.le_refl _)
     (by
      show (w.heap.push _)[w.heap.size]? = some (.mapIter (some (ρ id).b) (len l) #[] (len l))
      rw[yV,<- hn0];simp)
     (fun b hb=>by rw[zv,Array.getElem?_push,if_neg (by omega)]) (by simp[zv]) rfl rfl rfl
    refine⟨_,_,⟨_,_,.value (.pointer (some ⟨w.heap.size,0,none⟩)),?_,.inl ?_,q1,q2,?_⟩,hr⟩
    ·simp[execOp,h1,V.γ,run_range_map w t kt et _ es es.size hu e1]
    ·simp[V.γ,jP]
    ·simp[V.bd,H.add]
   ·exact absurd hr he
  ·simp at hc
 case next i b=>
  cases b with
  | true=>simp at hc
  | false=>
   simp only at hc
   split at hc
   ·rename_i i' hi
    simp at hc;subst hc
    have hr:eNxt i' fr h k e=0:=hr
    unfold eNxt at hr
    obtain⟨id,s,hv,⟨a',b',c',ho,hz⟩ | ⟨m,l,ho,hx,hr⟩⟩:=zeP hr he
    ·obtain⟨g1,_⟩:=zq hf hi hv
     have ho1:w.heap[(ρ id).b]? = some (.mapIter none a' b'.toArray c'):=hs.obj id _ ho
     refine⟨_,_,⟨ρ,w,.value (.tuple #[.bool false]),?_,.inl (by simp[V.γ,γL]),hs,hs.refl E,(show (V.tup [.b false]).bd _ from ⟨trivial,trivial⟩)⟩,hz⟩
     simp[execOp,g1,V.γ,Instr.next,getObj,Sem.run_bind,Sem.run,ho1,Result.andThen]
    ·obtain⟨hm,hr⟩:=zn hr he
     obtain⟨g1,_⟩:=zq hf hi hv
     have ht:=zmt (P:=P) hs ho hx hm
     split at hr
     ·rename_i hl
      refine⟨_,_,⟨ρ,w,.value (.tuple #[.bool false]),?_,.inl (by simp[V.γ,γL]),hs,hs.refl E,(show (V.tup [.b false]).bd _ from ⟨trivial,trivial⟩)⟩,hr⟩
      rcases ht ty with ⟨_,hrun⟩ | ⟨p,hp,_⟩
      ·simp[execOp,g1,V.γ,hrun]
      ·rw[hl]at hp;cases hp
     ·rename_i p hl
      unfold zfa at hr
      rw[y9]at hr
      rcases ht ty with ⟨h0,_⟩ | ⟨p',hp,w',hrun,q1,q2,q3⟩
      ·rw[h0]at hl;cases hl
      ·rw[hl]at hp
       simp at hp;subst hp
       refine⟨_,_,⟨ρ,w',.value (V.γ E ρ (.tup [.b true,p'.2.1,p'.2.2])),?_,.inl rfl,q1,q2,q3⟩,hr⟩
       simp[execOp,g1,V.γ,hrun]
     ·exact absurd hr he
   ·simp at hc
 case insert t m kx x=>
  split at hc
  ·rename_i kk z m' k' x' hmp hm hkx hxx
   simp at hc;subst hc
   obtain⟨id,key,v,l,l',g1,g2,g3,g4,g5,g6,g7,g8⟩:=ins_ok (show eIns kk m' k' x' fr h k e=0 from hr) he
   obtain⟨h1,_⟩:=zq hf hm g1
   obtain⟨h2,b2⟩:=zq hf hkx g2
   obtain⟨h3,b3⟩:=zq hf hxx g3
   obtain⟨w',r1,r2,r3⟩:=zwD (P:=P) hY hmp hs g5 (yD h id g6) g4 b2 b3 g7
   exact⟨.tup [],_,⟨ρ,w',.skip,by simp[execOp,h1,h2,h3,V.γ,r1],.inr ⟨rfl,rfl⟩,r2,r3,trivial⟩,g8⟩
  ·simp at hc
 case mapUpdate t m kx x=>
  split at hc
  ·rename_i kk z m' k' x' hmp hm hkx hxx
   simp at hc;subst hc
   obtain⟨id,key,v,l,l',g1,g2,g3,g4,g5,g6,g7,g8⟩:=ins_ok (show eIns kk m' k' x' fr h k e=0 from hr) he
   obtain⟨h1,_⟩:=zq hf hm g1
   obtain⟨h2,b2⟩:=zq hf hkx g2
   obtain⟨h3,b3⟩:=zq hf hxx g3
   obtain⟨w',r1,r2,r3⟩:=zwD (P:=P) hY hmp hs g5 (yD h id g6) g4 b2 b3 g7
   exact⟨.tup [],_,⟨ρ,w',.skip,by simp[execOp,h1,h2,h3,V.γ,r1],.inr ⟨rfl,rfl⟩,r2,r3,trivial⟩,g8⟩
  ·simp at hc
 all_goals first
  | (exfalso;simp at hc;done)
  | (exfalso
     (repeat' split at hc) <;> first
      | (simp at hc;done)
      | (obtain⟨_,_,rfl⟩:=yT hc;simp[zN,IOp.go]at hst;done)
      | (obtain⟨_,_,_,_,rfl⟩:=yB hc;simp[zN,IOp.go]at hst;done)
      | (simp at hc;subst hc;simp[zN,IOp.go]at hst;done))
end Go.Ev
end
set_option linter.unusedSimpArgs false
set_option linter.unusedVariables false
noncomputable section
namespace Go.Ev
open Go
variable {E:Env}
structure FaOk (E:Env) (fa:Fa):Prop where
 l:∀ c b,(c,b)∈fa.l->c.den E=b
 r:∀ i a b,(i,a,b)∈fa.r->a<=E.i i/\E.i i<=b
theorem FaOk.nil:FaOk E ⟨[],[]⟩:=⟨fun _ _ h=>(by cases h),fun _ _ _ h=>(by cases h)⟩
theorem FaOk.cons {fa:Fa} (h:FaOk E fa) {c:SB} {b:Bool} (hc:c.den E=b):FaOk E ⟨(c,b)::fa.l,fa.r⟩:=
 ⟨fun c' b' h'=>by
  rcases List.mem_cons.1 h' with h' | h'
  ·cases h';exact hc
  ·exact h.l _ _ h',h.r⟩
theorem SB.beq_eq:∀ {a b:SB},SB.beq a b=true->a=b
 | .v i,b,h=>by cases b <;> simp[SB.beq]at h;subst h;rfl
 | .cmp o x y,b,h=>by
  cases b <;> simp[SB.beq]at h
  obtain⟨⟨h1,h2⟩,h3⟩:=h
  rw[oEq_eq h1,SE.beq_eq h2,SE.beq_eq h3]
 | .not x,b,h=>by
  cases b <;> simp[SB.beq]at h
  rw[SB.beq_eq h]
 | .and x y,b,h=>by
  cases b <;> simp[SB.beq]at h
  rw[SB.beq_eq h.1,SB.beq_eq h.2]
theorem zwf:∀ (r:List (Nat × Int × Int)) (j:Nat) (p q:Int),rngV r j=some (p,q)->(j,p,q)∈r
 | [],j,p,q,h=>by simp[rngV]at h
 | (i,a,b)::r,j,p,q,h=>by
  simp only[rngV]at h
  split at h
  ·rename_i e
   have e:i=j:=by simpa using e
   subst e
   simp at h;obtain⟨rfl,rfl⟩:=h
   exact List.mem_cons_self
  ·exact List.mem_cons_of_mem _ (zwf r j p q h)
theorem zd7 {k:IntKind} {a b x:Int} (h:zt9 k a b=true) (h1:a<=x) (h2:x<=b):k.wrap x=x:=by
 cases k <;> simp[zt9]at h
 ·rw[IntKind.wrap_i64];omega
 ·rw[IntKind.wrap_u64];omega
theorem SE.rng_ok {fa:Fa} (hf:FaOk E fa):∀ (x:SE) (p q:Int),x.rng fa.r=some (p,q)->p<=x.den E/\x.den E<=q
 | .v i,p,q,h=>hf.r _ _ _ (zwf _ _ _ _ h)
 | .lit n,p,q,h=>by simp[SE.rng]at h;obtain⟨rfl,rfl⟩:=h;exact⟨Int.le_refl _,Int.le_refl _⟩
 | .op o k x y,p,q,h=>by
  simp only[SE.rng]at h
  split at h
  ·rename_i a b c d hx hy
   obtain⟨x1,x2⟩:=SE.rng_ok hf x _ _ hx
   obtain⟨y1,y2⟩:=SE.rng_ok hf y _ _ hy
   split at h
   ·rename_i hfit
    simp at h;obtain⟨rfl,rfl⟩:=h
    have:SE.den E (.op .add k x y)=k.wrap (x.den E+y.den E):=by simp[SE.den,arS,arI,z6]
    rw[this,zd7 hfit (by omega) (by omega)]
    omega
   ·simp at h
  ·rename_i a b c d hx hy
   obtain⟨x1,x2⟩:=SE.rng_ok hf x _ _ hx
   obtain⟨y1,y2⟩:=SE.rng_ok hf y _ _ hy
   split at h
   ·rename_i hfit
    simp at h;obtain⟨rfl,rfl⟩:=h
    have:SE.den E (.op .sub k x y)=k.wrap (x.den E - y.den E):=by simp[SE.den,arS,arI,z6]
    rw[this,zd7 hfit (by omega) (by omega)]
    omega
   ·simp at h
  ·simp at h
 | .cv k x,p,q,h=>by
  simp only[SE.rng]at h
  split at h
  ·rename_i a b hx
   obtain⟨x1,x2⟩:=SE.rng_ok hf x _ _ hx
   split at h
   ·rename_i hfit
    simp at h;obtain⟨rfl,rfl⟩:=h
    have:SE.den E (.cv k x)=k.wrap (x.den E):=rfl
    rw[this,zd7 hfit x1 x2]
    exact⟨x1,x2⟩
   ·simp at h
  ·simp at h
 | .mm true x y,p,q,h=>by
  simp only[SE.rng]at h
  split at h
  ·rename_i a b c d hx hy
   obtain⟨x1,x2⟩:=SE.rng_ok hf x _ _ hx
   obtain⟨y1,y2⟩:=SE.rng_ok hf y _ _ hy
   simp at h;obtain⟨rfl,rfl⟩:=h
   simp only[SE.den]
   split <;> omega
  ·simp at h
 | .mm false x y,p,q,h=>by
  simp only[SE.rng]at h
  split at h
  ·rename_i a b c d hx hy
   obtain⟨x1,x2⟩:=SE.rng_ok hf x _ _ hx
   obtain⟨y1,y2⟩:=SE.rng_ok hf y _ _ hy
   simp at h;obtain⟨rfl,rfl⟩:=h
   simp only[SE.den]
   split <;> omega
  ·simp at h
theorem zmk {fa:Fa} (hf:∀ c b,(c,b)∈fa.l->c.den E=b) {c:SB} {b:Bool}:∀ (l:List (SB × Bool)),(∀ x∈l,x∈fa.l)->askF l c=some b->c.den E=b
 | [],_,h=>by simp[askF]at h
 | (s,t)::r,hl,h=>by
  simp only[askF]at h
  split at h
  ·rename_i e
   simp at h;subst h
   rw[<- SB.beq_eq e]
   exact hf _ _ (hl _ List.mem_cons_self)
  ·exact zmk hf r (fun x hx=>hl x (List.mem_cons_of_mem _ hx)) h
theorem askR_ok {o:BinOp} {a b c d x y:Int} {t:Bool} (h:askR o a b c d=some t) (h1:a<=x) (h2:x<=b) (h3:c<=y) (h4:y<=d):(zbs o x y).getD false=t:=by
 cases o <;> simp only[askR]at h <;> try simp at h
 all_goals (split at h <;> try split at h)
 all_goals simp at h
 all_goals subst h
 all_goals simp_all [zbs,jb,zbq,zfJ]
 all_goals omega
theorem zBl {o:BinOp} {x:Int} {t:Bool} (h:zbs o 0 0=some t):zbs o x x=some t:=by
 cases o <;> simp[zbs,jb,zbq,zfJ]at h ⊢ <;> exact h
theorem SB.ask_ok {fa:Fa} (hf:FaOk E fa):∀ (c:SB) (b:Bool),c.ask fa=some b->c.den E=b
 | .v i,b,h=>zmk hf.l _ (fun _ h=>h) h
 | .not x,b,h=>by
  simp only[SB.ask,Option.map_eq_some_iff]at h
  obtain⟨y,h1,rfl⟩:=h
  simp[SB.den,SB.ask_ok hf x y h1]
 | .and x y,b,h=>by
  simp only[SB.ask]at h
  split at h
  ·rename_i h1
   simp[SB.den,SB.ask_ok hf x _ h1,SB.ask_ok hf y _ h]
  ·rename_i h1
   simp at h;subst h
   simp[SB.den,SB.ask_ok hf x _ h1]
  ·rename_i h1 h2
   simp at h;subst h
   simp[SB.den,SB.ask_ok hf y _ h2]
  ·simp at h
 | .cmp o x y,b,h=>by
  simp only[SB.ask]at h
  split at h
  ·rename_i e
   have e:=SE.beq_eq e
   subst e
   simp[SB.den,zBl h]
  ·split at h
   ·rename_i t ht
    simp at h;subst h
    exact zmk hf.l _ (fun _ h=>h) ht
   ·split at h
    ·rename_i p q s t h1 h2
     obtain⟨a1,a2⟩:=SE.rng_ok hf x _ _ h1
     obtain⟨a3,a4⟩:=SE.rng_ok hf y _ _ h2
     exact askR_ok h a1 a2 a3 a4
    ·simp at h
theorem zeY {fa:Fa} (hf:∀ c b,(c,b)∈fa.l->c.den E=b) {e:SE} {n:Int}:∀ (l:List (SB × Bool)),(∀ x∈l,x∈fa.l)->zdJ l e=some n->e.den E=n
 | [],_,h=>by simp[zdJ]at h
 | (c,t)::r,hl,h=>by
  unfold zdJ at h
  split at h
  ·rename_i hh;exact absurd hh (by simp)
  ·rename_i a m r' e' hh
   cases hh
   split at h
   ·rename_i hb
    simp at h;subst h
    have:=hf _ _ (hl _ List.mem_cons_self)
    rw[<- SE.beq_eq hb]
    simpa [SB.den,zbs,jb,SE.den] using this
   ·exact zeY hf r (fun x hx=>hl x (List.mem_cons_of_mem _ hx)) h
  ·rename_i hh
   cases hh
   exact zeY hf r (fun x hx=>hl x (List.mem_cons_of_mem _ hx)) h
theorem zmj {l0:List (SB × Bool)} (hf:∀ c b,(c,b)∈l0->c.den E=b):∀ (l:List (SB × Bool)),(∀ x,x∈l->x∈l0)->∀ {e s:SE},zeh l e=some s->s.den E=e.den E
 | [],_,e,s,h=>by cases h
 | x::r,hl,e,s,h=>by
  have rec':=fun h=>zmj hf r (fun x hx=>hl x (List.mem_cons_of_mem _ hx)) (e:=e) (s:=s) h
  unfold zeh at h
  split at h
  ·rename_i hh;exact absurd hh (by simp)
  ·rename_i a m r' e' hh
   cases hh
   split at h
   ·rename_i hb
    simp at h;subst h
    have:=hf _ _ (hl _ List.mem_cons_self)
    rw[<- SE.beq_eq hb]
    have h2:iEq (m.den E) (r'.den E)=true:=by simpa [SB.den,zbs] using this
    rw[jb]at h2
    exact(of_decide_eq_true h2).symm
   ·exact rec' h
  ·rename_i hh
   cases hh
   exact rec' h
theorem zgh (e:SE):(zdi e).den E=e.den E:=by
 unfold zdi
 split
 ·rename_i s a b
  show jS .i64 (s.den E+jS .i64 (a+b))=jS .i64 (jS .i64 (s.den E+a)+b)
  rw[z6,z6,z6,z6,IntKind.wrap_i64,IntKind.wrap_i64,IntKind.wrap_i64,IntKind.wrap_i64]
  omega
 ·rfl
def nrm (fa:Fa) (v:V):V:=nrmK fa v id
theorem zwn {σ:Type} (fa:Fa) (v:V) (k:V->σ):nrmK fa v k=k (nrm fa v):=by
 unfold nrm nrmK
 cases v <;> try rfl
 ·rename_i c
  show oc (c.ask fa) (fun b=>k (.b b)) (k (.sb c))=k (oc (c.ask fa) (fun b=>.b b) (.sb c))
  cases c.ask fa <;> rfl
 ·rename_i t e
  show oc (zdJ fa.l e) (fun n=>k (.i t n)) (oc (zeh fa.l e) (fun s=>k (.si t s)) (k (.si t (zdi e))))=k (oc (zdJ fa.l e) (fun n=>.i t n) (oc (zeh fa.l e) (fun s=>.si t s) (.si t (zdi e))))
  cases zdJ fa.l e <;> cases zeh fa.l e <;> rfl
theorem zvh {fa:Fa} (hf:FaOk E fa) (v:V):(∀ ρ,(nrm fa v).γ E ρ=v.γ E ρ)/\∀ n,v.bd n->(nrm fa v).bd n:=by
 cases v <;> try exact⟨fun _=>rfl,fun _ h=>h⟩
 ·rename_i c
  show (∀ ρ,(oc (c.ask fa) (fun b=>V.b b) (V.sb c)).γ E ρ=(V.sb c).γ E ρ)/\∀ n,(V.sb c).bd n->(oc (c.ask fa) (fun b=>V.b b) (V.sb c)).bd n
  cases h:c.ask fa with
  | none=>exact⟨fun _=>rfl,fun _ h=>h⟩
  | some b=>exact⟨fun ρ=>by show Value.bool b=Value.bool (c.den E);rw[SB.ask_ok hf c b h],fun _ _=>trivial⟩
 ·rename_i t e
  show (∀ ρ,(oc (zdJ fa.l e) (fun n=>V.i t n) (oc (zeh fa.l e) (fun s=>V.si t s) (V.si t (zdi e)))).γ E ρ=(V.si t e).γ E ρ)/\∀ n,(V.si t e).bd n->(oc (zdJ fa.l e) (fun n=>V.i t n) (oc (zeh fa.l e) (fun s=>V.si t s) (V.si t (zdi e)))).bd n
  cases h:zdJ fa.l e with
  | none=>
   cases h2:zeh fa.l e with
   | none=>exact⟨fun ρ=>by show Value.int t ((zdi e).den E)=Value.int t (e.den E);rw[zgh],fun _ _=>trivial⟩
   | some s=>exact⟨fun ρ=>by show Value.int t (s.den E)=Value.int t (e.den E);rw[zmj hf.l _ (fun _ h=>h) h2],fun _ _=>trivial⟩
  | some n=>exact⟨fun ρ=>by show Value.int t n=Value.int t (e.den E);rw[zeY hf.l _ (fun _ h=>h) h],fun _ _=>trivial⟩
theorem zyi {a b:Nat} (h:both a b=0):a=0/\b=0:=by
 cases a with
 | zero=>exact⟨rfl,h⟩
 | succ a=>exact absurd h (by simp[both,yq])
theorem zcR {fa:Fa} {v:Option V} {k:Bool->Fa->Nat} {e:Nat} (h:way fa v k e=0) (he:e≠0) (hf:FaOk E fa) (ρ:Rho) :
  ∃ x b fa',v=some x/\x.γ E ρ=.bool b/\FaOk E fa'/\k b fa'=0:=by
 unfold way at h
 split at h
 ·rename_i x;exact⟨_,x,fa,rfl,rfl,hf,h⟩
 ·rename_i c
  split at h
  ·rename_i x hx
   exact⟨_,x,fa,rfl,by rw[V.γ,SB.ask_ok hf c x hx],hf,h⟩
  ·obtain⟨h1,h2⟩:=zyi h
   cases hc:c.den E with
   | true=>exact⟨_,true,_,rfl,by rw[V.γ,hc],hf.cons hc,h1⟩
   | false=>exact⟨_,false,_,rfl,by rw[V.γ,hc],hf.cons hc,h2⟩
 ·exact absurd h he
end Go.Ev
end
set_option linter.unusedSimpArgs false
set_option linter.unusedVariables false
noncomputable section
namespace Go.Ev
open Go
def Par (f:KV->Nat->Nat):Prop:=(∀ k e,f k e=e)\/∃ v h',∀ k e,f k e=k v h'
theorem zj:Par (fun _ e=>e):=.inl fun _ _=>rfl
theorem zK (v:V) (h:H):Par (fun k _=>k v h):=.inr ⟨v,h,fun _ _=>rfl⟩
theorem zQ {α:Type} {x:Option α} {f:α->KV->Nat->Nat} (hf:∀ a,Par (fun k e=>f a k e)):Par (fun k e=>oc x (fun a=>f a k e) e):=by
 cases x with
 | none=>exact zj
 | some a=>exact hf a
theorem zR {b:Bool} {f g:KV->Nat->Nat} (hf:Par (fun k e=>f k e)) (hg:Par (fun k e=>g k e)):Par (fun k e=>bc b (f k e) (g k e)):=by
 cases b with
 | true=>exact hf
 | false=>exact hg
theorem yK {x:Option V} {f:Ev.P->Nat->KV->Nat->Nat} (hf:∀ a b,Par (fun k e=>f a b k e)):Par (fun k e=>zak x (fun a b=>f a b k e) e):=by
 rcases x with _ | v
 ·exact zj
 ·cases v <;> first | exact zj | exact hf _ _
theorem yY {x:Option V} {f:Ev.P->Nat->Nat->KV->Nat->Nat} (hf:∀ a b c,Par (fun k e=>f a b c k e)):Par (fun k e=>vSl x (fun a b c=>f a b c k e) e):=by
 rcases x with _ | v
 ·exact zj
 ·cases v <;> first | exact zj | exact hf _ _ _
theorem yL {x:Option V} {f:List V->KV->Nat->Nat} (hf:∀ a,Par (fun k e=>f a k e)):Par (fun k e=>vAgg x (fun a=>f a k e) e):=by
 rcases x with _ | v
 ·exact zj
 ·cases v <;> first | exact zj | exact hf _
theorem yJ {x:Option V} {f:List V->KV->Nat->Nat} (hf:∀ a,Par (fun k e=>f a k e)):Par (fun k e=>vTup x (fun a=>f a k e) e):=by
 rcases x with _ | v
 ·exact zj
 ·cases v <;> first | exact zj | exact hf _
theorem yz {x:Option V} {f:Int->KV->Nat->Nat} (hf:∀ a,Par (fun k e=>f a k e)):Par (fun k e=>vLit x (fun a=>f a k e) e):=by
 rcases x with _ | v
 ·exact zj
 ·cases v <;> first | exact zj | exact hf _
theorem zdZ {x:Option V} {f:Ev.P->Nat->KV->Nat->Nat} {g:KV->Nat->Nat} (hf:∀ i o,Par (fun k e=>f i o k e)) (hg:Par g):Par (fun k e=>zak x (fun i o=>f i o k e) (g k e)):=by
 rcases x with _ | v
 ·exact hg
 ·cases v <;> first | exact hg | exact hf _ _
theorem zzQ {x:Option V} {f:Ev.P->Nat->Nat->KV->Nat->Nat} {g:KV->Nat->Nat} (hf:∀ i o n,Par (fun k e=>f i o n k e)) (hg:Par g):Par (fun k e=>vSl x (fun i o n=>f i o n k e) (g k e)):=by
 rcases x with _ | v
 ·exact hg
 ·cases v <;> first | exact hg | exact hf _ _ _
theorem par_vFs {x:Option V} {f:Ev.P->Nat->KV->Nat->Nat} (hf:∀ i o,Par (fun k e=>f i o k e)):Par (fun k e=>vFs x (fun i o=>f i o k e) e):=by
 rcases x with _ | v
 ·exact zj
 ·cases v <;> first | exact zj | exact hf _ _
theorem zlO {x:Option V} {f:Ev.P->Nat->Nat->KV->Nat->Nat} (hf:∀ i q o,Par (fun k e=>f i q o k e)):Par (fun k e=>vFp x (fun i q o=>f i q o k e) e):=by
 rcases x with _ | v
 ·exact zj
 ·cases v <;> first | exact zj | exact hf _ _ _
theorem par_vSi {x:Option V} {f:SE->KV->Nat->Nat} (hf:∀ s,Par (fun k e=>f s k e)):Par (fun k e=>vSi x (fun s=>f s k e) e):=by
 rcases x with _ | v
 ·exact zj
 ·cases v <;> first | exact zj | exact hf _
theorem zdu {x:Option O} {q:Nat} {f:Nat->SE->SE->List V->KV->Nat->Nat} (hf:∀ z N I l,Par (fun k e=>f z N I l k e)):Par (fun k e=>oRow x q (fun z N I l=>f z N I l k e) e):=by
 rcases x with _ | v
 ·exact zj
 ·cases v <;> first | exact zj | exact zR (f:=fun k e=>f _ _ _ _ k e) (g:=fun _ e=>e) (hf _ _ _ _) zj
theorem ztE {h:H} {v:Option V} {f:Ev.P->Ev.P->List (V × V)->List Nat->KV->Nat->Nat} {z:KV->Nat->Nat} (hf:∀ a b c d,Par (fun k e=>f a b c d k e)) (hz:Par (fun k e=>z k e)):Par (fun k e=>itOf h v (fun a b c d=>f a b c d k e) (z k e) e):=by
 unfold itOf
 rcases v with _ | v
 ·exact zj
 cases v <;> try exact zj
 rename_i id off
 cases off with
 | succ n=>exact zj
 | zero=>
  show Par (fun k e=>match ya h id with
   | some (.x (.it none _ _ _))=>z k e
   | some (.x (.it (some m) since seen last))=>oc (zc3 (ya h m)) (fun l=>bc (Nat.beq since (len l) && Nat.beq last (len l)) (f id m l seen k e) e) e
   | _=>e)
  rcases ya h id with _ | o
  ·exact zj
  cases o <;> try exact zj
  rename_i o
  cases o with
  | mx l=>exact zj
  | wd t q n=>exact zj
  | it m s n c=>
   cases m with
   | none=>exact hz
   | some m=>exact zQ fun l=>zR (f:=fun k e=>f _ _ _ _ k e) (g:=fun _ e=>e) (hf _ _ _ _) zj
theorem zxO {id:Ev.P} {n:Nat} {lo hi mx:Option Int} {h:H} {g:KV->Nat->Nat} (hg:Par (fun k e=>g k e)):Par (fun k e=>zt5 id n lo hi mx h k (g k e)):=by
 unfold zt5
 split
 ·exact zR (f:=fun k e=>k _ h) (g:=fun k e=>g k e) (zK _ h) hg
 ·exact hg
theorem ziH {l:List V} {f:V->List V->KV->Nat->Nat} (hf:∀ v r,Par (fun k e=>f v r k e)):Par (fun k e=>jM e (fun v r=>f v r k e) l):=by
 cases l with
 | nil=>exact zj
 | cons v r=>exact hf v r
theorem par_ldF (a:Od) (fr:Fr) (h:H):Par (fun k e=>ldF a fr h k e):=
 zlO fun id q o=>zdu fun z N I l=>zQ fun v=>zK v h
theorem zzR (n:Nat) (a:Od) (fr:Fr) (h:H):Par (fun k e=>ldnF n a fr h k e):=
 zlO fun id q o=>zdu fun z N I l=>zR (f:=fun k e=>jM e (fun _ _=>k (.agg l) h) l) (g:=fun _ e=>e) (ziH fun v r=>zK _ h) zj
theorem par_ixF (esz:Nat) (x i:Od) (fr:Fr) (h:H):Par (fun k e=>ixF esz x i fr h k e):=
 par_vFs fun id q=>par_vSi fun s=>zdu fun z N I l=>zR (f:=fun k e=>jM e (fun _ _=>k (.fp id q 0) h) l) (g:=fun _ e=>e) (ziH fun v r=>zK _ h) zj
theorem yj {h:H} {id:Ev.P} {o:O} {f:H->KV->Nat->Nat} (hf:∀ h,Par (fun k e=>f h k e)):Par (fun k e=>jL h id o (fun h=>f h k e)):=by
 have:(fun (k:KV) (e:Nat)=>jL h id o (fun h=>f h k e))=fun k e=>f (h.put id o) k e:=by funext k e;rw[y9]
 rw[this];exact hf _
theorem ye {h:H} {o:O} {f:Ev.P->H->KV->Nat->Nat} (hf:∀ i h,Par (fun k e=>f i h k e)):Par (fun k e=>zas h o (fun i h=>f i h k e)):=by
 have:(fun (k:KV) (e:Nat)=>zas h o (fun i h=>f i h k e))=fun k e=>f h.n (h.add o) k e:=by funext k e;rw[ji]
 rw[this];exact hf _ _
theorem yM {o:O} {off:Nat} {l:List V} {f:O->KV->Nat->Nat} (hf:∀ o',Par (fun k e=>f o' k e)):Par (fun k e=>putN o off l (fun o'=>f o' k e) e):=by
 cases o with
 | cells t c=>exact zQ (f:=fun c k e=>f (.cells t c) k e) fun c=>hf _
 | arr t n d z tr=>
  refine zR (f:=fun k e=>zew d tr off l (fun tr=>f (.arr t n d z tr) k e)) (g:=fun _ e=>e) ?_ zj
  simp only[zbG];exact hf _
 | vec t x n c=>exact zQ (f:=fun c k e=>f (.vec t x n c) k e) fun c=>hf _
 | varr t n d z tr=>
  refine zR (f:=fun k e=>zew d tr off l (fun tr=>f (.varr t n d z tr) k e)) (g:=fun _ e=>e) ?_ zj
  simp only[zbG];exact hf _
 | row q z N I l=>exact zj
 | oa t q n d tr=>
  refine zR (f:=fun k e=>zew d tr off l (fun tr=>f (.oa t q n d tr) k e)) (g:=fun _ e=>e) ?_ zj
  simp only[zbG];exact hf _
 | map l=>exact zj
 | x l=>exact zj
 | dead=>exact zj
theorem yN {o:O} {off:Nat} {v:V} {f:O->KV->Nat->Nat} (hf:∀ o',Par (fun k e=>f o' k e)):Par (fun k e=>put1 o off v (fun o'=>f o' k e) e):=by
 cases o with
 | cells t c=>exact zQ (f:=fun c k e=>f (.cells t c) k e) fun c=>hf _
 | arr t n d z tr=>
  refine zR (f:=fun k e=>zaK tr d off v (fun tr=>f (.arr t n d z tr) k e)) (g:=fun _ e=>e) ?_ zj
  simp only[j2];exact hf _
 | vec t x n c=>exact zQ (f:=fun c k e=>f (.vec t x n c) k e) fun c=>hf _
 | varr t n d z tr=>
  refine zR (f:=fun k e=>zaK tr d off v (fun tr=>f (.varr t n d z tr) k e)) (g:=fun _ e=>e) ?_ zj
  simp only[j2];exact hf _
 | row q z N I l=>exact zj
 | oa t q n d tr=>
  refine zR (f:=fun k e=>zaK tr d off v (fun tr=>f (.oa t q n d tr) k e)) (g:=fun _ e=>e) ?_ zj
  simp only[j2];exact hf _
 | map l=>exact zj
 | x l=>exact zj
 | dead=>exact zj
theorem zzU (h:H) (t:TypeId) (esz by_:Nat) (x y:V):Par (fun k e=>appV h t esz by_ x y k e):=by
 unfold appV
 generalize zwq h esz y=q
 rcases q with _ | ⟨n,l⟩
 ·exact zj
 refine zR (zR ?_ zj) zj
 cases x <;> try exact zj
 ·rename_i id off m c
  refine zR (zR ?_ zj) zj
  generalize ya h id=o
  rcases o with _ | o
  ·exact zj
  generalize hl:zcf o off (m*esz)=q
  simp only[hl]
  rcases q with _ | q
  ·exact zj
  ·(repeat' first | exact zj | exact zK _ _ | refine zR ?_ ?_ | (refine zQ ?_;intro _) | (refine yK ?_;intro _ _) | (refine yY ?_;intro _ _ _) | (refine yL ?_;intro _) | (refine yJ ?_;intro _) | (refine yz ?_;intro _) | (refine yj ?_;intro _) | (refine ye ?_;intro _ _) | (refine yM ?_;intro _) | (refine yN ?_;intro _))
 ·rename_i id m
  refine zR (zR ?_ zj) zj
  generalize ya h id=o
  rcases o with _ | o
  ·exact zj
  cases o <;> try exact zj
  (repeat' first | exact zj | exact zK _ _ | refine zR ?_ ?_ | (refine zQ ?_;intro _) | (refine yK ?_;intro _ _) | (refine yY ?_;intro _ _ _) | (refine yL ?_;intro _) | (refine yJ ?_;intro _) | (refine yz ?_;intro _) | (refine yj ?_;intro _) | (refine ye ?_;intro _ _) | (refine yM ?_;intro _) | (refine yN ?_;intro _))
 ·(repeat' first | exact zj | exact zK _ _ | refine zR ?_ ?_ | (refine zQ ?_;intro _) | (refine yK ?_;intro _ _) | (refine yY ?_;intro _ _ _) | (refine yL ?_;intro _) | (refine yJ ?_;intro _) | (refine yz ?_;intro _) | (refine yj ?_;intro _) | (refine ye ?_;intro _ _) | (refine yM ?_;intro _) | (refine yN ?_;intro _))
theorem zzT (h:H) (t:TypeId) (esz by_:Nat) (x y:V):Par (fun k e=>appW h t esz by_ x y k e):=by
 unfold appW
 refine zR (zK _ _) ?_
 generalize zbQ h t esz x y=q
 rcases q with _ | ⟨n,o⟩
 ·exact zzU _ _ _ _ _ _
 ·exact zR (ye fun _ _=>zK _ _) zj
theorem ztF (o o2:O) (id:Ev.P) (off n off2 n2 esz:Nat) (h:H):Par (fun k e=>cpyO o o2 id off n off2 n2 esz h k e):=by
 unfold cpyO
 generalize zcf o2 off2 ((Nat.min n n2)*esz)=q
 rcases q with _ | q
 ·exact zj
 ·(repeat' first | exact zj | exact zK _ _ | refine zR ?_ ?_ | (refine zQ ?_;intro _) | (refine yK ?_;intro _ _) | (refine yY ?_;intro _ _ _) | (refine yL ?_;intro _) | (refine yJ ?_;intro _) | (refine yz ?_;intro _) | (refine yj ?_;intro _) | (refine ye ?_;intro _ _) | (refine yM ?_;intro _) | (refine yN ?_;intro _))
theorem zzS (h:H) (esz:Nat) (x y:V):Par (fun k e=>cpyV h esz x y k e):=by
 unfold cpyV
 generalize zf6 x=p
 generalize zf6 y=q
 rcases p with _ | ⟨id,off,n,c⟩
 ·exact zj
 rcases q with _ | ⟨id2,off2,n2,c2⟩
 ·exact zj
 refine zR ?_ zj
 generalize ya h id=o
 generalize ya h id2=o2
 rcases o with _ | o
 ·exact zj
 rcases o2 with _ | o2
 ·exact zj
 cases o <;> cases o2 <;> first | exact ztF _ _ _ _ _ _ _ _ _ | exact zR (by (repeat' first | exact zj | exact zK _ _ | refine zR ?_ ?_ | (refine zQ ?_;intro _) | (refine yK ?_;intro _ _) | (refine yY ?_;intro _ _ _) | (refine yL ?_;intro _) | (refine yJ ?_;intro _) | (refine yz ?_;intro _) | (refine yj ?_;intro _) | (refine ye ?_;intro _ _) | (refine yM ?_;intro _) | (refine yN ?_;intro _))) (ztF _ _ _ _ _ _ _ _ _)
theorem zma (i:IOp) (fr:Fr) (h:H):Par (fun k e=>evI i fr h k e):=by
 cases i with
 | mov x=>exact zQ fun v=>zK v h
 | pick c a b=>
  show Par (fun k e=>zuh c a b fr h k e)
  unfold zuh
  generalize od c fr=q
  rcases q with _ | v
  ·exact zj
  cases v <;> try exact zj
  rename_i b
  cases b
  ·exact zQ fun v=>zK v h
  ·exact zQ fun v=>zK v h
 | new t l=>show Par (fun k e=>eNew t l fr h k e);unfold eNew zf8;(repeat' first | exact zj | exact zK _ _ | refine zR ?_ ?_ | (refine zQ ?_;intro _) | (refine yK ?_;intro _ _) | (refine yY ?_;intro _ _ _) | (refine yL ?_;intro _) | (refine yJ ?_;intro _) | (refine yz ?_;intro _) | (refine yj ?_;intro _) | (refine ye ?_;intro _ _) | (refine yM ?_;intro _) | (refine yN ?_;intro _))
 | box t x=>show Par (fun k e=>eBox t x fr h k e);unfold eBox zf8;(repeat' first | exact zj | exact zK _ _ | refine zR ?_ ?_ | (refine zQ ?_;intro _) | (refine yK ?_;intro _ _) | (refine yY ?_;intro _ _ _) | (refine yL ?_;intro _) | (refine yJ ?_;intro _) | (refine yz ?_;intro _) | (refine yj ?_;intro _) | (refine ye ?_;intro _ _) | (refine yM ?_;intro _) | (refine yN ?_;intro _))
 | agg z ps=>show Par (fun k e=>eAgg z ps fr h k e);unfold eAgg;(repeat' first | exact zj | exact zK _ _ | refine zR ?_ ?_ | (refine zQ ?_;intro _) | (refine yK ?_;intro _ _) | (refine yY ?_;intro _ _ _) | (refine yL ?_;intro _) | (refine yJ ?_;intro _) | (refine yz ?_;intro _) | (refine yj ?_;intro _) | (refine ye ?_;intro _ _) | (refine yM ?_;intro _) | (refine yN ?_;intro _))
 | bsl t n z ps=>show Par (fun k e=>eBsl t n z ps fr h k e);unfold eBsl zf8;(repeat' first | exact zj | exact zK _ _ | refine zR ?_ ?_ | (refine zQ ?_;intro _) | (refine yK ?_;intro _ _) | (refine yY ?_;intro _ _ _) | (refine yL ?_;intro _) | (refine yJ ?_;intro _) | (refine yz ?_;intro _) | (refine yj ?_;intro _) | (refine ye ?_;intro _ _) | (refine yM ?_;intro _) | (refine yN ?_;intro _))
 | ld a=>exact zdZ (fun id off=>zQ fun o=>zQ fun v=>zK v h) (par_ldF a fr h)
 | ldn n a=>exact zdZ (fun id off=>zQ fun o=>zQ fun l=>zK _ h) (zzR n a fr h)
 | st n a x=>
  show Par (fun k e=>eSt n a x fr h k e)
  unfold eSt
  cases Nat.beq n 1
  ·show Par (fun k e=>eStN n a x fr h k e);unfold eStN;(repeat' first | exact zj | exact zK _ _ | refine zR ?_ ?_ | (refine zQ ?_;intro _) | (refine yK ?_;intro _ _) | (refine yY ?_;intro _ _ _) | (refine yL ?_;intro _) | (refine yJ ?_;intro _) | (refine yz ?_;intro _) | (refine yj ?_;intro _) | (refine ye ?_;intro _ _) | (refine yM ?_;intro _) | (refine yN ?_;intro _))
  ·show Par (fun k e=>eSt1 a x fr h k e);unfold eSt1;(repeat' first | exact zj | exact zK _ _ | refine zR ?_ ?_ | (refine zQ ?_;intro _) | (refine yK ?_;intro _ _) | (refine yY ?_;intro _ _ _) | (refine yL ?_;intro _) | (refine yJ ?_;intro _) | (refine yz ?_;intro _) | (refine yj ?_;intro _) | (refine ye ?_;intro _ _) | (refine yM ?_;intro _) | (refine yN ?_;intro _))
 | nilc x=>show Par (fun k e=>eNilc x fr h k e);unfold eNilc;(repeat' first | exact zj | exact zK _ _ | refine zR ?_ ?_ | (refine zQ ?_;intro _) | (refine yK ?_;intro _ _) | (refine yY ?_;intro _ _ _) | (refine yL ?_;intro _) | (refine yJ ?_;intro _) | (refine yz ?_;intro _) | (refine yj ?_;intro _) | (refine ye ?_;intro _ _) | (refine yM ?_;intro _) | (refine yN ?_;intro _))
 | bin o q x y=>show Par (fun k e=>eBin o q x y fr h k e);unfold eBin;(repeat' first | exact zj | exact zK _ _ | refine zR ?_ ?_ | (refine zQ ?_;intro _) | (refine yK ?_;intro _ _) | (refine yY ?_;intro _ _ _) | (refine yL ?_;intro _) | (refine yJ ?_;intro _) | (refine yz ?_;intro _) | (refine yj ?_;intro _) | (refine ye ?_;intro _ _) | (refine yM ?_;intro _) | (refine yN ?_;intro _))
 | not x=>
  show Par (fun k e=>eNot x fr h k e)
  unfold eNot
  generalize od x fr=q
  rcases q with _ | v
  ·exact zj
  cases v <;> first | exact zj | exact zK _ _
 | neg x=>
  show Par (fun k e=>eNeg x fr h k e)
  unfold eNeg
  generalize od x fr=q
  rcases q with _ | v
  ·exact zj
  cases v <;> first | exact zj | exact zK _ _
 | cv t x=>
  show Par (fun k e=>eCv t x fr h k e)
  unfold eCv
  generalize od x fr=q
  rcases q with _ | v
  ·exact zj
  cases v <;> first | exact zj | exact zK _ _
 | mkf F p l=>
  show Par (fun k e=>eMkf F p l fr h k e)
  unfold eMkf
  generalize ods p fr=q
  generalize ods l fr=r
  rcases q with _ | q <;> rcases r with _ | r <;> first | exact zj | exact zK _ _
 | fad off x=>exact zdZ (fun id o=>zK _ h) (zlO (f:=fun id q o k _=>k (.fp id q (Nat.add o off)) h) fun id q o=>zK _ h)
 | fld off sz g x=>show Par (fun k e=>eFld off sz g x fr h k e);unfold eFld;(repeat' first | exact zj | exact zK _ _ | refine zR ?_ ?_ | (refine zQ ?_;intro _) | (refine yK ?_;intro _ _) | (refine yY ?_;intro _ _ _) | (refine yL ?_;intro _) | (refine yJ ?_;intro _) | (refine yz ?_;intro _) | (refine yj ?_;intro _) | (refine ye ?_;intro _ _) | (refine yM ?_;intro _) | (refine yN ?_;intro _))
 | ixa n esz x i=>show Par (fun k e=>eIxa n esz x i fr h k e);unfold eIxa;(repeat' first | exact zj | exact zK _ _ | refine zR ?_ ?_ | (refine zQ ?_;intro _) | (refine yK ?_;intro _ _) | (refine yY ?_;intro _ _ _) | (refine yL ?_;intro _) | (refine yJ ?_;intro _) | (refine yz ?_;intro _) | (refine yj ?_;intro _) | (refine ye ?_;intro _ _) | (refine yM ?_;intro _) | (refine yN ?_;intro _))
 | ixs esz x i=>exact zzQ (fun id off n=>yz fun j=>zQ fun j=>zK _ h) (par_ixF esz x i fr h)
 | ix n esz g x i=>show Par (fun k e=>eIx n esz g x i fr h k e);unfold eIx;(repeat' first | exact zj | exact zK _ _ | refine zR ?_ ?_ | (refine zQ ?_;intro _) | (refine yK ?_;intro _ _) | (refine yY ?_;intro _ _ _) | (refine yL ?_;intro _) | (refine yJ ?_;intro _) | (refine yz ?_;intro _) | (refine yj ?_;intro _) | (refine ye ?_;intro _ _) | (refine yM ?_;intro _) | (refine yN ?_;intro _))
 | ext x i=>show Par (fun k e=>eExt x i fr h k e);unfold eExt;(repeat' first | exact zj | exact zK _ _ | refine zR ?_ ?_ | (refine zQ ?_;intro _) | (refine yK ?_;intro _ _) | (refine yY ?_;intro _ _ _) | (refine yL ?_;intro _) | (refine yJ ?_;intro _) | (refine yz ?_;intro _) | (refine yj ?_;intro _) | (refine ye ?_;intro _ _) | (refine yM ?_;intro _) | (refine yN ?_;intro _))
 | lens x=>
  show Par (fun k e=>zui x fr h k e)
  unfold zui
  generalize od x fr=q
  rcases q with _ | v
  ·exact zj
  cases v <;> first | exact zj | exact zK _ _ | exact zdu fun z N I l=>zK _ h
 | mmx mx x y=>
  show Par (fun k e=>eMmx mx x y fr h k e)
  unfold eMmx
  generalize od x fr=q
  generalize od y fr=r
  rcases q with _ | v
  ·exact zj
  rcases r with _ | u
  ·cases v <;> exact zj
  cases v <;> cases u
  all_goals
   (repeat' first | exact zj | exact zK _ _ | refine zR ?_ ?_ | (refine zQ ?_;intro _) | (refine yK ?_;intro _ _) | (refine yY ?_;intro _ _ _) | (refine yL ?_;intro _) | (refine yJ ?_;intro _) | (refine yz ?_;intro _) | (refine yj ?_;intro _) | (refine ye ?_;intro _ _) | (refine yM ?_;intro _) | (refine yN ?_;intro _))
 | msl t z esz by_ n c=>
  show Par (fun k e=>eMsl t z esz by_ n c fr h k e)
  unfold eMsl
  generalize od n fr=q
  generalize od c fr=r
  rcases q with _ | v
  ·exact zj
  cases v <;> try exact zj
  rename_i k1 a
  cases a <;> try exact zj
  rcases r with _ | u
  ·exact zj
  cases u <;> try exact zj
  rename_i k2 b
  cases b <;> try exact zj
  (repeat' first | exact zj | exact zK _ _ | refine zR ?_ ?_ | (refine zQ ?_;intro _) | (refine yK ?_;intro _ _) | (refine yY ?_;intro _ _ _) | (refine yL ?_;intro _) | (refine yJ ?_;intro _) | (refine yz ?_;intro _) | (refine yj ?_;intro _) | (refine ye ?_;intro _ _) | (refine yM ?_;intro _) | (refine yN ?_;intro _))
 | slc esz x lo hi mx=>
  show Par (fun k e=>eSlc esz x lo hi mx fr h k e)
  unfold eSlc
  generalize od x fr=q
  generalize odO fr lo=q1
  generalize odO fr hi=q2
  generalize odO fr mx=q3
  rcases q with _ | v
  ·exact zj
  rcases q1 with _ | lo
  ·exact zj
  rcases q2 with _ | hi
  ·exact zj
  rcases q3 with _ | mx
  ·exact zj
  simp only
  generalize zb3 lo=q1
  generalize zb3 hi=q2
  generalize zb3 mx=q3
  rcases q1 with _ | lo
  ·exact zj
  rcases q2 with _ | hi
  ·exact zj
  rcases q3 with _ | mx
  ·exact zj
  cases v <;> try exact zj
  ·rename_i id off n c
   simp only
   generalize zeg n c lo hi mx=q
   rcases q with _ | ⟨l,r,m⟩
   ·exact zj
   ·exact zK _ _
  ·rename_i id n
   simp only
   refine zxO ?_
   unfold tailV
   generalize cntV (ya h id)=q
   split
   ·exact zR (zK _ _) zj
   ·exact zR (zK _ _) zj
   ·exact zj
  ·simp only
   generalize zeg 0 0 lo hi mx=q
   rcases q with _ | q
   ·exact zj
   ·exact zK _ _
 | sla n esz x lo hi mx=>
  show Par (fun k e=>eSla n esz x lo hi mx fr h k e)
  unfold eSla
  generalize od x fr=q
  generalize odO fr lo=q1
  generalize odO fr hi=q2
  generalize odO fr mx=q3
  rcases q with _ | v
  ·exact zj
  cases v <;> try exact zj
  rename_i id off
  rcases q1 with _ | lo
  ·exact zj
  rcases q2 with _ | hi
  ·exact zj
  rcases q3 with _ | mx
  ·exact zj
  simp only
  generalize zb3 lo=q1
  generalize zb3 hi=q2
  generalize zb3 mx=q3
  rcases q1 with _ | lo
  ·exact zj
  rcases q2 with _ | hi
  ·exact zj
  rcases q3 with _ | mx
  ·exact zj
  simp only
  generalize zeg n n lo hi mx=q
  rcases q with _ | ⟨l,r,m⟩
  ·exact zj
  ·exact zK _ _
 | app t esz by_ x y=>exact zQ fun a=>zQ fun b=>zzT _ _ _ _ _ _
 | cpy esz x y=>exact zQ fun a=>zQ fun b=>zzS _ _ _ _
 | mop o=>
  cases o with
  | mk=>
   show Par (fun kc e=>zas h (.map []) (fun i h=>kc (.mp i) h))
   exact ye fun i h=>zK _ h
  | ins kk m k x=>
   show Par (fun kc e=>eIns kk m k x fr h kc e)
   unfold eIns
   generalize od m fr=q
   rcases q with _ | v
   ·exact zj
   cases v <;> try exact zj
   rename_i id
   refine zQ fun key=>zQ fun v=>?_
   cases ja kk key
   ·exact zj
   cases zaI h id
   ·exact zj
   show Par (fun kc e=>zdP (ya h id) _ e)
   generalize ya h id=q
   rcases q with _ | o
   ·exact zj
   cases o <;> try exact zj
   rename_i l
   show Par (fun kc e=>oc (yt kk key l 0) _ e)
   cases yt kk key l 0 with
   | none=>exact zj
   | some r=>
    rcases r with _ | ⟨j,b⟩
    ·show Par (fun kc e=>jL h id _ (fun h=>kc (.tup []) h))
     exact yj fun h=>zK _ h
    ·show Par (fun kc e=>oc (spl l j [(key,v)]) (fun l=>jL h id (.map l) (fun h=>kc (.tup []) h)) e)
     exact zQ fun l=>yj fun h=>zK _ h
  | lkp kk z ok m k=>
   show Par (fun kc e=>eLkp kk z ok m k fr h kc e)
   unfold eLkp
   refine zQ fun key=>?_
   cases ja kk key
   ·show Par (fun kc e=>bc (zlY kk key) (match od m fr with
     | some .mnil=>kc (zcE ok z false) h
     | some (.mp id)=>zdP (ya h id) (fun l=>bc (yP (exK kk key) l) (kc (zcE ok z false) h) e) e
     | _=>e) e)
    cases zlY kk key
    ·exact zj
    show Par (fun kc e=>match od m fr with
     | some .mnil=>kc (zcE ok z false) h
     | some (.mp id)=>zdP (ya h id) (fun l=>bc (yP (exK kk key) l) (kc (zcE ok z false) h) e) e
     | _=>e)
    generalize od m fr=q
    rcases q with _ | v
    ·exact zj
    cases v <;> try exact zj
    ·rename_i id
     show Par (fun kc e=>zdP (ya h id) _ e)
     generalize ya h id=q
     rcases q with _ | o
     ·exact zj
     cases o <;> try exact zj
     rename_i l
     exact zR (f:=fun k e=>k _ h) (g:=fun _ e=>e) (zK _ h) zj
    ·exact zK _ h
   show Par (fun kc e=>match od m fr with
    | some .mnil=>kc (zcE ok z false) h
    | some (.mp id)=>zdP (ya h id) _ e
    | _=>e)
   generalize od m fr=q
   rcases q with _ | v
   ·exact zj
   cases v <;> try exact zj
   ·rename_i id
    show Par (fun kc e=>zdP (ya h id) _ e)
    generalize ya h id=q
    rcases q with _ | o
    ·exact zj
    cases o <;> try exact zj
    rename_i l
    show Par (fun kc e=>oc (yt kk key l 0) _ e)
    cases yt kk key l 0 with
    | none=>exact zj
    | some r=>
     rcases r with _ | ⟨j,b⟩
     ·exact zK _ h
     ·exact zK _ h
   ·exact zK _ h
  | len m=>
   show Par (fun kc e=>eMln m fr h kc e)
   unfold eMln
   generalize od m fr=q
   rcases q with _ | v
   ·exact zj
   cases v <;> try exact zj
   ·rename_i id
    show Par (fun kc e=>zdP (ya h id) _ e)
    generalize ya h id=q
    rcases q with _ | o
    ·exact zj
    cases o <;> first | exact zj | exact zK _ h
   ·exact zK _ h
  | arp n x=>
   show Par (fun kc e=>eArp n x fr h kc e)
   unfold eArp
   generalize od x fr=q
   rcases q with _ | v
   ·exact zj
   cases v <;> first | exact zj | exact zR (f:=fun k e=>k _ h) (g:=fun _ e=>e) (zK _ h) zj
  | rng m=>
   show Par (fun kc e=>eRng m fr h kc e)
   unfold eRng
   generalize od m fr=q
   rcases q with _ | v
   ·exact zj
   cases v <;> try exact zj
   ·exact zQ fun l=>ye fun i h=>zK _ h
   ·exact ye fun i h=>zK _ h
  | nxt i=>
   show Par (fun kc e=>eNxt i fr h kc e)
   unfold eNxt
   refine ztE (fun id m l seen=>?_) (zK _ h)
   cases zaI h id
   ·exact zj
   show Par (fun kc e=>match zbi seen l 0 with
    | []=>kc (.tup [.b false]) h
    | [p]=>zfa h id m l seen p kc
    | _=>e)
   generalize zbi seen l 0=q
   match q with
   | []=>exact zK _ h
   | [p]=>exact yj fun h=>zK _ h
   | _::_::_=>exact zj
  | ent i=>
   show Par (fun kc e=>eEnt i fr h kc e)
   unfold eEnt
   exact ztE (fun id m l seen=>zQ fun j=>zQ fun p=>zK _ h) zj
end Go.Ev
end
set_option linter.unusedSimpArgs false
set_option linter.unusedVariables false
noncomputable section
namespace Go.Ev
open Go
variable {E:Env} {P:Program} {N:Nat}
theorem za7 {Y:Ty} (hY:TyOk P Y) {o:Oper} {i:IOp} (hc:cOp Y o.op=some i) {fr:Fr} {h:H} {k:KV} {e:Nat} (hr:evI i fr h k e=0) (he:e≠0) :
  ∃ v h',k v h'=0/\∀ (E:Env) (ρ:Rho) (a:Act) (w:World),zw E ρ h.n.toNat fr a.tmps->Sat E ρ h w->zek E P o a ρ h w v h':=by
 rcases zma i fr h with h1 | ⟨v,h',h1⟩
 ·exact absurd ((h1 k e).symm.trans hr) he
 ·refine⟨v,h',by rw[<- h1 k e];exact hr,fun E ρ a w hf hs=>?_⟩
  obtain⟨v2,h2,hp,hk⟩:=zwQ (k:=fun v2 h2=>@ite _ (v2=v/\h2=h') (Classical.propDecidable _) 0 1) (e:=1) hY hc ((h1 _ _).trans (by simp)) (by simp) hf hs
  by_cases hc:v2=v/\h2=h'
  ·rw[hc.1,hc.2]at hp;exact hp
  ·rw[if_neg hc]at hk;simp at hk
theorem yh {Y:Ty} (hY:TyOk P Y) {o:Oper} {i:IOp} (hc:cOp Y o.op=some i) (hst:zN i=true) {fr:Fr} {h:H} {k:KV} {e:Nat} (hr:evI i fr h k e=0) (he:e≠0) :
  ∃ v h',k v h'=0/\∀ (E:Env) (ρ:Rho) (n:Nat) (a:Act) (w:World),h.n.toNat<=n->zw E ρ n fr a.tmps->Sat E ρ h w->(execOp a.eval o).run P w=.ok (.value (v.γ E ρ)) w/\v.bd n:=by
 rcases zma i fr h with h1 | ⟨v,h',h1⟩
 ·exact absurd ((h1 k e).symm.trans hr) he
 ·refine⟨v,h',by rw[<- h1 k e];exact hr,fun E ρ n a w hn hf hs=>?_⟩
  obtain⟨v2,h2,hp,hk⟩:=ziZ (k:=fun v2 h2=>@ite _ (v2=v/\h2=h') (Classical.propDecidable _) 0 1) (e:=1) hY hc hst ((h1 _ _).trans (by simp)) (by simp) hn hf hs
  by_cases hc:v2=v/\h=h'
  ·rw[hc.1]at h2 hp;exact⟨h2,hp⟩
  ·rw[if_neg hc]at hk;simp at hk
def yl (P:Program) (F:Nat):Prop:=∀ args w,(callFunc F args).run P w=.ok (.enter F args) w
def zi (E:Env) (P:Program) (call:zy):Prop:=∀ F l h fa k,call F l h fa k=0->FaOk E fa->yl P F/\∃ v h' fa',k v h' fa'=0/\FaOk E fa' /\
 ∀ ρ w,bdL h.n.toNat l->Sat E ρ h w->Calls P F (γL E ρ l).toArray w fun e w'=>∃ ρ',e=.returned (v.γ E ρ')/\Sat E ρ' h' w'/\Ext ρ h w ρ' h' w'/\v.bd h'.n.toNat
def At (E:Env) (N:Nat) (DS:List Deferred) (ρ:Rho) (h:H) (w:World) (fr':Fr) (h':H) (a':Act) (w':World):Prop:=
 ∃ ρ',zw E ρ' h'.n.toNat fr' a'.tmps/\N<=a'.tmps.size/\a'.defers=DS/\Sat E ρ' h' w'/\Ext ρ h w ρ' h' w'
theorem zw.mono {ρ ρ':Rho} {n n':Nat} {fr:Fr} {tmps:Array Value} (hf:zw E ρ n fr tmps) (hn:n<=n') (h:∀ i:Ev.P,i.toNat<n->ρ' i=ρ i):zw E ρ' n' fr tmps:=by
 intro t v hv
 obtain⟨h1,h2⟩:=hf t v hv
 exact⟨by rw[h1,γ_agree E h v h2],bd_mono hn v h2⟩
theorem zw.set {ρ:Rho} {n:Nat} {fr fr':Fr} {tmps:Array Value} (hf:zw E ρ n fr tmps) {s:Nat} (hs:s<tmps.size) {v:V} (hv:v.bd n) (h1:fr'.get (zp s)=some v) (h2:∀ q,q≠zp s->fr'.get q=fr.get q):zw E ρ n fr' (tmps.setIfInBounds s (v.γ E ρ)):=by
 intro t u hu
 by_cases hst:t=s
 ·subst hst
  rw[h1]at hu
  simp at hu;subst hu
  exact⟨by simp[hs],hv⟩
 ·rw[h2 _ (fun e=>hst (zdA e))]at hu
  obtain⟨h2,h3⟩:=hf t u hu
  exact⟨by rw[Array.getElem?_setIfInBounds,if_neg (fun e=>hst e.symm)];exact h2,h3⟩
theorem z7 {d:Option Ky} {dst:Option Nat} (hd:zef N dst=some d) {v:V} {fr:Fr} {k:Fr->Nat} (hk:jC d v fr k=0) :
  ∃ fr',k fr'=0/\∀ (E:Env) (ρ:Rho) (n:Nat) (a:Act),zw E ρ n fr a.tmps->N<=a.tmps.size->v.bd n ->
   zw E ρ n fr' (a.put dst (v.γ E ρ)).tmps/\N<=(a.put dst (v.γ E ρ)).tmps.size/\(a.put dst (v.γ E ρ)).defers=a.defers:=by
 cases dst with
 | none=>
  simp[zef]at hd;subst hd
  exact⟨fr,hk,fun E ρ n a hf hN hv=>⟨hf,hN,rfl⟩⟩
 | some t=>
  simp only[zef]at hd
  split at hd
  ·rename_i hlt
   have hlt:t<N:=by simpa using hlt
   simp at hd;subst hd
   have hk:zb7 (zp t) fr v k=0:=hk
   obtain⟨fr',hk,g1,g2⟩:=zbH hk
   exact⟨_,hk,fun E ρ n a hf hN hv=>⟨hf.set (by omega) hv g1 g2,by simpa [Act.put] using hN,rfl⟩⟩
  ·simp at hd
theorem zP {E:Env} {fa:Fa} (hfa:FaOk E fa) {d:Option Ky} {dst:Option Nat} (hd:zef N dst=some d) {v:V} {fr:Fr} {k:Fr->Nat} (hk:yI d fa v fr k=0) :
  ∃ fr',k fr'=0/\∀ (ρ:Rho) (n:Nat) (a:Act),zw E ρ n fr a.tmps->N<=a.tmps.size->v.bd n ->
   zw E ρ n fr' (a.put dst (v.γ E ρ)).tmps/\N<=(a.put dst (v.γ E ρ)).tmps.size/\(a.put dst (v.γ E ρ)).defers=a.defers:=by
 unfold yI at hk
 rw[zwn]at hk
 obtain⟨fr',h1,h2⟩:=z7 hd hk
 obtain⟨g1,g2⟩:=zvh hfa v
 refine⟨fr',h1,fun ρ n a hf hN hb=>?_⟩
 have:=h2 E ρ n a hf hN (g2 n hb)
 rw[g1 ρ]at this
 exact this
theorem zl (c:Ctx) (n:Nat):err c n≠0:=by simp[err]
theorem yE {ops:Array Oper} {o:Oper} {g:Option (Ky × Bool)} (hg:zbt ops.toList o.guard=some g) {c:Ctx} {fr:Fr} {fa:Fa} (hfa:FaOk E fa) {k s:Fa->Nat} (hk:jO c g fr fa k s=0) :
  (∃ fa',FaOk E fa'/\k fa'=0/\∀ ρ n a,zw E ρ n fr (a:Act).tmps->Region.wanted o (yielded ops a.tmps)=true) \/
  (∃ fa',FaOk E fa'/\s fa'=0/\∀ ρ n a,zw E ρ n fr (a:Act).tmps->Region.wanted o (yielded ops a.tmps)=false):=by
 cases hgd:o.guard with
 | none=>
  rw[hgd]at hg
  simp[zbt]at hg;subst hg
  exact .inl ⟨fa,hfa,hk,fun ρ n a _=>by simp[Region.wanted,hgd]⟩
 | some jw=>
  obtain⟨j,want⟩:=jw
  rw[hgd]at hg
  simp only[zbt]at hg
  split at hg
  ·rename_i t ht
   simp at hg;subst hg
   have hk:bc (zwA (fr.get (zp t))) (s fa) (way fa (fr.get (zp t)) (fun x fa=>bc x (bc want (k fa) (s fa)) (bc want (s fa) (k fa))) (err c 40))=0:=hk
   cases hT:zwA (fr.get (zp t)) with
   | true=>
    rw[hT]at hk
    have hk:s fa=0:=hk
    refine .inr ⟨fa,hfa,hk,fun ρ n a hf=>?_⟩
    unfold zwA at hT
    split at hT
    ·rename_i l hl
     have h1:=(hf t _ hl).1
     unfold dstOf at ht
     rw[zX]at ht
     split at ht
     ·rename_i oj hoj
      have hoj:ops[j]? = some oj:=by simpa using hoj
      simp[Region.wanted,hgd,yielded,hoj,ht,h1,V.γ]
     ·simp at ht
    ·simp at hT
   | false=>
   rw[hT]at hk
   have hk:way fa (fr.get (zp t)) (fun x fa=>bc x (bc want (k fa) (s fa)) (bc want (s fa) (k fa))) (err c 40)=0:=hk
   obtain⟨x,b,fa',hx,hb,hfa',hk⟩:=zcR hk (zl _ _) hfa (fun _=>⟨0,0⟩)
   have hb':∀ ρ,x.γ E ρ=.bool b:=by
    intro ρ
    cases x <;> simp[V.γ]at hb ⊢ <;> exact hb
   have hy:∀ ρ n (a:Act),zw E ρ n fr a.tmps->yielded ops a.tmps j=some b:=by
    intro ρ n a hf
    have h1:=(hf t x hx).1
    unfold dstOf at ht
    rw[zX]at ht
    split at ht
    ·rename_i oj hoj
     have hoj:ops[j]? = some oj:=by simpa using hoj
     simp[yielded,hoj,ht,h1,hb']
    ·simp at ht
   cases b <;> cases want
   ·exact .inl ⟨fa',hfa',hk,fun ρ n a hf=>by simp[Region.wanted,hgd,hy ρ n a hf]⟩
   ·exact .inr ⟨fa',hfa',hk,fun ρ n a hf=>by simp[Region.wanted,hgd,hy ρ n a hf]⟩
   ·exact .inr ⟨fa',hfa',hk,fun ρ n a hf=>by simp[Region.wanted,hgd,hy ρ n a hf]⟩
   ·exact .inl ⟨fa',hfa',hk,fun ρ n a hf=>by simp[Region.wanted,hgd,hy ρ n a hf]⟩
  ·simp at hg
theorem zun {o:Oper} {cl:Call} {f0:Operand} (hop:o.op=.call cl) (hcal:cl.callee=.value f0) {f:Od} (hf0:cOd f0=some f) {args:List Od} (ha:zeA cl.args.toList=some args)
  {c:Ctx} {fr:Fr} {h:H} {fa:Fa} {k:K} (hk:jU f args c fr h fa k=0) :
  ∃ F l,c.call F l h fa k=0/\∀ (E:Env) ρ n (a:Act),zw E ρ n fr a.tmps->bdL n l/\∀ w,(execOp a.eval o).run P w=(callFunc F (γL E ρ l).toArray).run P w:=by
 unfold jU at hk
 generalize hF:od f fr=q at hk
 rcases q with _ | q
 ·exact absurd hk (zl _ _)
 cases q <;> try exact absurd hk (zl _ _)
 rename_i F pre caps
 obtain⟨l,hl,hk⟩:=zA (show oc (ods args fr) _ _=0 from hk) (zl _ _)
 refine⟨F,app pre (app l caps),hk,fun E ρ n a hf=>?_⟩
 obtain⟨e1,b1⟩:=zq hf hf0 hF
 obtain⟨e2,b2⟩:=zbJ hf ha hl
 refine⟨?_,fun w=>?_⟩
 ·rw[zaf,zaf,yg]
  intro x hx
  rcases List.mem_append.1 hx with h1 | h1
  ·exact(yg _ pre).1 b1.1 x h1
  ·rcases List.mem_append.1 h1 with h1 | h1
   ·exact(yg _ l).1 b2 x h1
   ·exact(yg _ caps).1 b1.2 x h1
 ·have hargs:cl.args.map a.eval=(γL E ρ l).toArray:=Array.toList_inj.1 (by rw[Array.toList_map];exact e2)
  have:(execOp a.eval o).run P w=(callFunc F ((γL E ρ pre).toArray ++ (γL E ρ l).toArray ++ (γL E ρ caps).toArray)).run P w:=by
   simp[execOp,hop,resolve,hcal,e1,V.γ,Deferred.ofValue,invoke,hargs]
  rw[this,zaf,zaf,γL_app,γL_app]
  simp
theorem jY {o:Oper} {cl:Call} {f0:Operand} (hop:o.op=.call cl) (hcal:cl.callee=.value f0) {f:Od} (hf0:cOd f0=some f) {args:List Od} (ha:zeA cl.args.toList=some args)
  {c:Ctx} (hcall:zi E P c.call) {fr:Fr} {h:H} {fa:Fa} (hfa:FaOk E fa) {k:K} (hk:jU f args c fr h fa k=0) :
  ∃ F l v h' fa',k v h' fa'=0/\FaOk E fa'/\(∀ ρ n (a:Act),zw E ρ n fr a.tmps->bdL n l/\∀ w,(execOp a.eval o).run P w=.ok (.enter F (γL E ρ l).toArray) w) /\
   ∀ ρ w,bdL h.n.toNat l->Sat E ρ h w->Calls P F (γL E ρ l).toArray w fun e w'=>∃ ρ',e=.returned (v.γ E ρ')/\Sat E ρ' h' w'/\Ext ρ h w ρ' h' w'/\v.bd h'.n.toNat:=by
 obtain⟨F,l,hk,hr⟩:=zun (P:=P) hop hcal hf0 ha hk
 obtain⟨hca,v,h',fa',h1,h2,h3⟩:=hcall _ _ _ _ _ hk hfa
 refine⟨F,l,v,h',fa',h1,h2,fun ρ n a hf=>?_,h3⟩
 obtain⟨q1,q2⟩:=hr E ρ n a hf
 exact⟨q1,fun w=>by rw[q2 w,hca]⟩
def One (P:Program) (ops:Array Oper) (o:Oper) (a:Act) (w:World) (K:Act->World->Prop) (QQ:Exit->Act->World->Prop):Prop:=
 (Region.wanted o (yielded ops a.tmps)=true/\o.wp P a w K QQ)\/(Region.wanted o (yielded ops a.tmps)=false/\K (a.put o.dst undef) w)
theorem z8 {Y:Ty} {all:List Oper} {o:Oper} {x:OI} (hx:jQ Y N all o=some x):∃ d g,zef N o.dst=some d/\zbt all o.guard=some g /\
  ((∃ i,cOp Y o.op=some i/\x=.op d g i)\/∃ cl f0 f l,o.op=.call cl/\cl.callee=.value f0/\cOd f0=some f/\zeA cl.args.toList=some l/\x=.call d g f l):=by
 unfold jQ at hx
 split at hx
 ·rename_i d g hd hg
  refine⟨d,g,hd,hg,?_⟩
  split at hx
  ·rename_i i hi
   simp at hx;subst hx
   exact .inl ⟨i,hi,rfl⟩
  ·split at hx
   ·rename_i cl hop
    split at hx
    ·rename_i f0 hcal
     split at hx
     ·rename_i f l hf hl
      simp at hx;subst hx
      exact .inr ⟨cl,f0,f,l,hop,hcal,hf,hl,rfl⟩
     ·simp at hx
    ·simp at hx
   ·simp at hx
 ·simp at hx
theorem zaF {Y:Ty} (hY:TyOk P Y) {ops:Array Oper} {o:Oper} {x:OI} (hx:jQ Y N ops.toList o=some x) {c:Ctx} (hcall:zi E P c.call) {fr:Fr} {h:H} {fa:Fa} (hfa:FaOk E fa) {k:K1}
  (hk:OI.go zam jd x c fr h fa k=0) :
  ∃ fr' h' fa',k fr' h' fa'=0/\FaOk E fa'/\∀ {DS:List Deferred} ρ w a QQ,Sat E ρ h w->zw E ρ h.n.toNat fr (a:Act).tmps->N<=a.tmps.size->a.defers=DS->One P ops o a w (At E N DS ρ h w fr' h') QQ:=by
 obtain⟨d,g,hd,hg,hx⟩:=z8 hx
 have skip:∀ fa',jC d (.tup []) fr (fun fr=>k fr h fa')=0->∃ fr',k fr' h fa'=0/\∀ {DS:List Deferred} ρ w (a:Act),Sat E ρ h w->zw E ρ h.n.toNat fr a.tmps->N<=a.tmps.size->a.defers=DS->At E N DS ρ h w fr' h (a.put o.dst undef) w:=by
  intro fa' hk
  obtain⟨fr',h1,h2⟩:=z7 hd hk
  refine⟨fr',h1,fun ρ w a hs hf hN hdf=>?_⟩
  obtain⟨g1,g2,g3⟩:=h2 E ρ _ a hf hN (by trivial)
  exact⟨ρ,g1,g2,g3.trans hdf,hs,hs.refl E⟩
 rcases hx with ⟨i,hi,rfl⟩ | ⟨cl,f0,f,l,hop,hcal,hf0,hl,rfl⟩
 ·have hk:zam d g i c fr h fa k=0:=hk
  rcases yE hg hfa hk with ⟨fa',hfa',hk,hw⟩ | ⟨fa',hfa',hk,hw⟩
  ·obtain⟨v,h',hk,hrun⟩:=za7 hY hi hk (zl _ _)
   obtain⟨fr',h1,h2⟩:=zP hfa' hd hk
   refine⟨fr',h',fa',h1,hfa',fun {DS} ρ w a QQ hs hf hN hdf=>.inl ⟨hw ρ _ a hf,?_⟩⟩
   obtain⟨ρ',w',nx,hr,hnx,hs',hx',hb⟩:=hrun E ρ a w hf hs
   obtain⟨g1,g2,g3⟩:=h2 ρ' _ a (hf.mono hx'.len hx'.agree) hN hb
   unfold Oper.wp
   rw[hr]
   have hgo:At E N DS ρ h w fr' h' (a.put o.dst (v.γ E ρ')) w':=⟨ρ',g1,g2,g3.trans hdf,hs',hx'⟩
   rcases hnx with rfl | ⟨rfl,rfl⟩
   ·exact hgo
   ·exact hgo
  ·obtain⟨fr',h1,h2⟩:=skip fa' hk
   exact⟨fr',h,fa',h1,hfa',fun {DS} ρ w a QQ hs hf hN hdf=>.inr ⟨hw ρ _ a hf,h2 ρ w a hs hf hN hdf⟩⟩
 ·have hk:jd d g f l c fr h fa k=0:=hk
  rcases yE hg hfa hk with ⟨fa',hfa',hk,hw⟩ | ⟨fa',hfa',hk,hw⟩
  ·obtain⟨F,vl,v,h',fa2,hk,hfa2,hrun,hdo⟩:=jY hop hcal hf0 hl hcall hfa' hk
   obtain⟨fr',h1,h2⟩:=z7 hd hk
   refine⟨fr',h',fa2,h1,hfa2,fun {DS} ρ w a QQ hs hf hN hdf=>.inl ⟨hw ρ _ a hf,?_⟩⟩
   obtain⟨hbd,hr⟩:=hrun ρ _ a hf
   unfold Oper.wp
   rw[hr,Oper.upon_enter]
   refine(hdo ρ w hbd hs).mono ?_
   rintro e w' ⟨ρ',rfl,hs',hx',hb⟩
   obtain⟨g1,g2,g3⟩:=h2 E ρ' _ a (hf.mono hx'.len hx'.agree) hN hb
   exact⟨ρ',g1,g2,g3.trans hdf,hs',hx'⟩
  ·obtain⟨fr',h1,h2⟩:=skip fa' hk
   exact⟨fr',h,fa',h1,hfa',fun {DS} ρ w a QQ hs hf hN hdf=>.inr ⟨hw ρ _ a hf,h2 ρ w a hs hf hN hdf⟩⟩
end Go.Ev
end
set_option linter.unusedSimpArgs false
set_option linter.unusedVariables false
namespace Go.EvQ
open Go
section
variable {P:Program} {ops:Array Oper} {md:Region.Mode} {C:World->Prop}
def headQ (P:Program) (md:Region.Mode) (ops:Array Oper) (C:World->Prop) (n:Nat) (L:Array Bool->Act->Prop):Nat->Array Bool->Act->Prop
 | 0,listed,a=>L listed a
 | f+1,listed,a=>Region.ready md ops listed≠[]/\∀ i∈Region.ready md ops listed,i<n/\qOp P ops C i (headQ P md ops C n L f (listed.setIfInBounds i true)) a
theorem headQ_any {n g:Nat} {L:Array Bool->Act->Prop} {Q':Exit->Act->World->Prop} (hL:∀ listed a w,C w->L listed a->wpAny P md ops Q' g listed a w) :
  ∀ (f:Nat) (listed:Array Bool) (a:Act) (w:World),C w->headQ P md ops C n L f listed a->wpAny P md ops Q' (f+g) listed a w:=by
 intro f
 induction f with
 | zero=>intro listed a w hw h;rw[Nat.zero_add];exact hL _ _ _ hw h
 | succ f ih=>
  intro listed a w hw h
  have e:f+1+g=(f+g)+1:=by omega
  rw[e]
  refine⟨fun h0=>absurd h0 h.1,fun i hi=>?_⟩
  exact wpOp_of_qOp hw (fun a' w' hw' h'=>ih _ a' w' hw' h') (h.2 i hi).2
def seqP (md:Region.Mode) (ops:Array Oper):List Nat->Array Bool->Bool
 | [],listed=>(Region.ready md ops listed).isEmpty
 | k::r,listed=>decide (Region.ready md ops listed=[k]) && seqP md ops r (listed.setIfInBounds k true)
def za3 (md:Region.Mode) (ops:Array Oper) (tl:List Nat):Nat->Nat->Array Bool->Bool
 | 0,_,listed=>seqP md ops tl listed
 | f+1,k,listed=>(Region.ready md ops listed).contains k && Region.free md ops listed k && za3 md ops tl f (k+1) (listed.setIfInBounds k true)
def tailB (md:Region.Mode) (ops:Array Oper) (n:Nat):Bool:=
 (List.range ops.size).all fun t=>decide (t<=n) || (List.range ops.size).any fun p=>decide (n<=p) && Region.waitsFor md ops t p
def lexTailP (md:Region.Mode) (ops:Array Oper) (n:Nat) (tl:List Nat):Bool:=
 Region.noSelect ops && decide (n<ops.size) && Region.sinkB md ops n && tailB md ops n && decide (n+tl.length=ops.size) && tl.all (fun i=>decide (n<=i/\i<ops.size)) && za3 md ops tl n 0 (Array.replicate ops.size false)
def pick (ops:Array Oper) (tl:List Nat):List Oper:=tl.filterMap fun i=>ops[i]?
theorem zcI {Q':Exit->Act->World->Prop}:∀ (tl:List Nat) (listed:Array Bool) (a:Act) (w:World),(∀ i∈tl,i<ops.size) ->
  seqP md ops tl listed=true->wpList P ops Q' (pick ops tl) a w->wpAny P md ops Q' tl.length listed a w
 | [],_,_,_,_,hB,h=>⟨by simpa [seqP] using hB,h⟩
 | k::tl,listed,a,w,hl,hB,h=>by
  have hk:k<ops.size:=hl k List.mem_cons_self
  have h0:ops[k]? = some ops[k]:=by simp[hk]
  simp only[seqP,Bool.and_eq_true,decide_eq_true_eq]at hB
  refine⟨fun h1=>(by rw[hB.1]at h1;cases h1),fun i hi=>?_⟩
  rw[hB.1]at hi
  have hik:i=k:=by simpa using hi
  subst hik
  have hp:pick ops (i::tl)=ops[i]::pick ops tl:=by simp[pick,h0]
  rw[hp]at h
  have hw:wpOp P ops Q' i (wpList P ops Q' (pick ops tl)) a w:=by unfold wpOp;simp only[h0];exact h
  exact wpOp_mono (fun a' w' h'=>zcI tl _ a' w' (fun j hj=>hl j (List.mem_cons_of_mem _ hj)) hB.2 h') hw
theorem zuO {n:Nat} {tl:List Nat} {listed:Array Bool} (hn:∀ i∈tl,n<=i) (h:seqP md ops tl listed=true):∀ j∈Region.ready md ops listed,n<=j:=by
 cases tl with
 | nil=>intro j hj;simp only[seqP,List.isEmpty_iff]at h;rw[h]at hj;cases hj
 | cons k tl=>
  intro j hj
  simp only[seqP,Bool.and_eq_true,decide_eq_true_eq]at h
  rw[h.1]at hj
  have:j=k:=by simpa using hj
  subst this
  exact hn j List.mem_cons_self
theorem tailB_waits {n:Nat} {listed:Array Bool} (hs:Region.sinkB md ops n=true) (hc:tailB md ops n=true) (hn:n<ops.size) (inv:HeadInv md ops n listed) :
  ∀ (d i:Nat),n - i=d->i<n->listed.getD i true=false->∀ t,n<=t->t∉Region.ready md ops listed:=by
 intro d
 induction d using Nat.strongRecOn with
 | _ d ih=>
  intro i hd hi hun t ht hr
  obtain⟨_,ot,hot,hall⟩:=mem_ready.1 hr
  have htlt:t<ops.size:=(Array.getElem?_eq_some_iff.1 hot).1
  by_cases htn:t=n
  ·subst htn
   have h1:=List.all_eq_true.1 hs i (List.mem_range.2 hi)
   obtain⟨j,hj,hj2⟩:=List.any_eq_true.1 h1
   simp only[Bool.and_eq_true,decide_eq_true_eq]at hj2
   obtain⟨oj,hoj,e,he,hb,hon⟩:=Region.waitsFor_spec hj2.2
   have hjle:j<=t:=by have:=List.mem_range.1 hj;omega
   by_cases hjt:j=t
   ·subst hjt
    have:oj=ot:=Option.some.inj (hoj.symm.trans hot)
    subst this
    have h2:=hall e he hb
    rw[hon,getD_both hun]at h2
    cases h2
   ·cases hl:listed.getD j false with
    | true=>
     have h2:=inv.closed j oj hoj hl e he hb
     rw[hon,getD_both hun]at h2
     cases h2
    | false=>
     have hjs:j<listed.size:=by rw[inv.size];omega
     exact ih (t - j) (by omega) j rfl (by omega) (getD_in hjs hl) t (Nat.le_refl _) hr
  ·have h1:=List.all_eq_true.1 hc t (List.mem_range.2 htlt)
   simp only[Bool.or_eq_true,decide_eq_true_eq]at h1
   rcases h1 with h1 | h1
   ·omega
   ·obtain⟨p,hp,hp2⟩:=List.any_eq_true.1 h1
    simp only[Bool.and_eq_true,decide_eq_true_eq]at hp2
    obtain⟨o',ho',e,he,hb,hon⟩:=Region.waitsFor_spec hp2.2
    have:o'=ot:=Option.some.inj (ho'.symm.trans hot)
    subst this
    have h2:=hall e he hb
    rw[hon,getD_both (inv.tail p hp2.1 (List.mem_range.1 hp))]at h2
    cases h2
theorem zfL {n i:Nat} {oi:Oper} {v:Value} {L:Array Bool->Act->Prop} (hi:ops[i]? = some oi) (hsel:∀ (j:Nat) (o:Oper) cs b,ops[j]? = some o->o.op≠.select cs b)
  (hbar:∀ listed,HeadInv md ops n listed->∀ i,i<n->listed.getD i true=false->∀ t,n<=t->t∉Region.ready md ops listed) (hin:i<n) (hdone:∀ listed a,L listed a->∀ j∈Region.ready md ops listed,n<=j) :
  ∀ (f:Nat) (listed:Array Bool) (a:Act),HeadInv md ops n listed ->
   (∀ j oj,ops[j]? = some oj->j≠i->listed.getD j true=false->(∀ e∈oj.after,Region.binds md e=true->e.on≠i)->oi.apart ops oj=true) ->
   i∈Region.ready md ops listed->YieldsIn P ops C oi v a ->
   headQ P md ops C n L f (listed.setIfInBounds i true) (a.put oi.dst v)->headQ P md ops C n L (f+1) listed a:=by
 intro f
 induction f with
 | zero=>
  intro listed a inv hfree hr hy hh
  have hun:=(mem_ready.1 hr).1
  refine⟨List.ne_nil_of_mem hr,fun j hj=>?_⟩
  have hlt:j<n:=Nat.lt_of_not_le fun h=>hbar listed inv i hin hun j h hj
  refine⟨hlt,?_⟩
  by_cases e:j=i
  ·subst e;exact hy.qOp hi hh
  ·exact absurd (hdone _ _ hh j (ready_mono hj e)) (by omega)
 | succ f ih=>
  intro listed a inv hfree hr hy hh
  have hun:=(mem_ready.1 hr).1
  refine⟨List.ne_nil_of_mem hr,fun j hj=>?_⟩
  have hlt:j<n:=Nat.lt_of_not_le fun h=>hbar listed inv i hin hun j h hj
  refine⟨hlt,?_⟩
  by_cases e:j=i
  ·subst e;exact hy.qOp hi hh
  ·have h1:=(hh.2 j (ready_mono hj e)).2
   obtain⟨hjun,oj,hoj,hall⟩:=mem_ready.1 hj
   have hno:∀ e∈oj.after,Region.binds md e=true->e.on≠i:=by
    intro ed he hb heq
    have h2:=hall ed he hb
    rw[heq,getD_both hun]at h2
    simp at h2
   have h2:=qOp_put hoj (hfree j oj hoj e hjun hno) (fun cs b=>hsel i oi cs b hi) (fun cs b=>hsel j oj cs b hoj) hy h1
   refine qOp_mono (fun a' h3=>?_) h2
   refine ih (listed.setIfInBounds j true) a' (inv.set hj hlt) ?_ (ready_mono hr (Ne.symm e)) h3.1 ?_
   ·intro k ok hk hki hku hkn
    refine hfree k ok hk hki ?_ hkn
    by_cases ejk:j=k
    ·rw[<- ejk];exact hjun
    ·rwa [getD_set_ne true ejk]at hku
   ·rw[Array.setIfInBounds_comm _ _ e]
    exact h3.2
theorem headQ_lex {n:Nat} {tl:List Nat} (htl:∀ i∈tl,n<=i) {K:Act->Prop} (hsel:Region.noSelect ops=true) (hbar:∀ listed,HeadInv md ops n listed->∀ i,i<n->listed.getD i true=false->∀ t,n<=t->t∉Region.ready md ops listed) :
  ∀ (l:List Oper) (k:Nat) (listed:Array Bool) (a:Act),(∀ j,j<l.length->l[j]? = ops[k+j]?)->k+l.length=n->HeadInv md ops n listed ->
  za3 md ops tl l.length k listed=true->wpQuiet P ops C K l a ->
  headQ P md ops C n (fun listed' a'=>seqP md ops tl listed'=true/\K a') l.length listed a:=by
 intro l
 induction l with
 | nil=>
  intro k listed a _ hk _ hB h
  have e:k=n:=by simpa using hk
  rw[e]at hB
  exact⟨by simpa [za3] using hB,h⟩
 | cons o l ih=>
  intro k listed a hl hk inv hB h
  have h0:ops[k]? = some o:=by simpa using (hl 0 (by simp)).symm
  simp only[List.length_cons]at hB hk
  simp only[za3,Bool.and_eq_true]at hB
  obtain⟨⟨hr,hf⟩,hB'⟩:=hB
  have hr':k∈Region.ready md ops listed:=by simpa using hr
  have hq:qOp P ops C k (wpQuiet P ops C K l) a:=by
   unfold qOp;simp only[h0];exact h
  obtain⟨v,hy,hK⟩:=yieldsIn_of_qOp h0 hq
  refine zfL h0 (Region.noSelect_spec hsel) hbar (by omega) (fun listed' a' hL=>zuO htl hL.1) l.length listed a inv (Region.free_spec h0 hf) hr' hy ?_
  exact ih (k+1) _ _ (fun j hj=>by have h1:=hl (j+1) (by simp;omega);simpa [Nat.add_assoc,Nat.add_comm 1 j] using h1) (by omega) (inv.set hr' (by omega)) hB' hK
theorem wp_region_head {id:Nat} {Q:Exit->Act->World->Prop} {a:Act} {w:World} (n:Nat) (tl:List Nat) (hm:P.follows .mixedOrders=true) (hB:lexTailP .any ops n tl=true) (hC:C { w with drawn:=w.drawn+1 })
  (h:wpQuiet P ops C (fun a'=>∀ w',C w'->wpList P ops Q (pick ops tl) a' w') (ops.toList.take n) a):(Code.region id ops true).wp P Q a w:=by
 simp only[lexTailP,Bool.and_eq_true,decide_eq_true_eq]at hB
 obtain⟨⟨⟨⟨⟨⟨hsel,hn⟩,hs⟩,hc⟩,hsz⟩,hall⟩,hlex⟩:=hB
 have htl:∀ i∈tl,n<=i/\i<ops.size:=fun i hi=>by simpa using List.all_eq_true.1 hall i hi
 have hlen:(ops.toList.take n).length=n:=by simp;omega
 have inv:HeadInv .any ops n (Array.replicate ops.size false):=
  ⟨by simp,fun j oj _ hl=>by rw[getD_replicate_false]at hl;simp at hl,fun t _ ht=>getD_in (by simpa using ht) (getD_replicate_false _ _)⟩
 have h1:=headQ_lex (P:=P) (C:=C) (md:=.any) (tl:=tl) (fun i hi=>(htl i hi).1) hsel (fun listed inv i hi hun t ht=>tailB_waits hs hc hn inv _ i rfl hi hun t ht) (ops.toList.take n) 0 _ a (fun j hj=>by
  have hj:j<n:=by omega
  simp[List.getElem?_take,hj]) (by simpa using hlen) inv (by rw[hlen];exact hlex) h
 rw[hlen]at h1
 refine wp_region_any hm ?_
 rw[show wpAny P .any ops Q ops.size=wpAny P .any ops Q (n+tl.length) from by rw[hsz]]
 refine headQ_any (C:=C) (fun listed a' w' hw' hL=>?_) n _ a _ hC h1
 exact zcI tl listed a' w' (fun i hi=>(htl i hi).2) hL.1 (hL.2 w' hw')
def lexHeadF (md:Region.Mode) (ops:Array Oper) (F:Array Bool->Bool):Nat->Nat->Array Bool->Bool
 | 0,_,listed=>F listed
 | f+1,k,listed=>(Region.ready md ops listed).contains k && Region.free md ops listed k && lexHeadF md ops F f (k+1) (listed.setIfInBounds k true)
def lexTwo (md:Region.Mode) (ops:Array Oper) (n:Nat):Bool:=
 Region.noSelect ops && decide (n<ops.size) && Region.sinkB md ops n && tailB md ops n &&
  lexHeadF md ops (fun listed=>decide (Region.ready md ops listed=[n]) && za3 md ops [] (ops.size - (n+1)) (n+1) (listed.setIfInBounds n true)) n 0 (Array.replicate ops.size false)
theorem headQ_lexF {n:Nat} {F:Array Bool->Bool} (hF:∀ listed,F listed=true->∀ j∈Region.ready md ops listed,n<=j) {K:Act->Prop} (hsel:Region.noSelect ops=true) (hbar:∀ listed,HeadInv md ops n listed->∀ i,i<n->listed.getD i true=false->∀ t,n<=t->t∉Region.ready md ops listed) :
  ∀ (l:List Oper) (k:Nat) (listed:Array Bool) (a:Act),(∀ j,j<l.length->l[j]? = ops[k+j]?)->k+l.length=n->HeadInv md ops n listed ->
  lexHeadF md ops F l.length k listed=true->wpQuiet P ops C K l a ->
  headQ P md ops C n (fun listed' a'=>(F listed'=true/\HeadInv md ops n listed')/\K a') l.length listed a:=by
 intro l
 induction l with
 | nil=>
  intro k listed a _ hk inv hB h
  exact⟨⟨by simpa [lexHeadF] using hB,inv⟩,h⟩
 | cons o l ih=>
  intro k listed a hl hk inv hB h
  have h0:ops[k]? = some o:=by simpa using (hl 0 (by simp)).symm
  simp only[List.length_cons]at hB hk
  simp only[lexHeadF,Bool.and_eq_true]at hB
  obtain⟨⟨hr,hf⟩,hB'⟩:=hB
  have hr':k∈Region.ready md ops listed:=by simpa using hr
  have hq:qOp P ops C k (wpQuiet P ops C K l) a:=by
   unfold qOp;simp only[h0];exact h
  obtain⟨v,hy,hK⟩:=yieldsIn_of_qOp h0 hq
  refine zfL h0 (Region.noSelect_spec hsel) hbar (by omega) (fun listed' a' hL=>hF _ hL.1.1) l.length listed a inv (Region.free_spec h0 hf) hr' hy ?_
  exact ih (k+1) _ _ (fun j hj=>by have h1:=hl (j+1) (by simp;omega);simpa [Nat.add_assoc,Nat.add_comm 1 j] using h1) (by omega) (inv.set hr' (by omega)) hB' hK
theorem wp_region_two {id:Nat} {Q:Exit->Act->World->Prop} {a:Act} {w:World} (n:Nat) (hm:P.follows .mixedOrders=true) (hB:lexTwo .any ops n=true) (hC:C { w with drawn:=w.drawn+1 })
  (h:wpQuiet P ops C (fun a'=>∀ w',C w'->wpOp P ops Q n (fun a2 w2=>∃ C2:World->Prop,C2 w2/\wpQuiet P ops C2 (fun a3=>∀ w3,C2 w3->Q .normal a3 w3) (ops.toList.drop (n+1)) a2) a' w') (ops.toList.take n) a) :
  (Code.region id ops true).wp P Q a w:=by
 simp only[lexTwo,Bool.and_eq_true,decide_eq_true_eq]at hB
 obtain⟨⟨⟨⟨hsel,hn⟩,hs⟩,hc⟩,hlex⟩:=hB
 have hlen:(ops.toList.take n).length=n:=by simp;omega
 have inv:HeadInv .any ops n (Array.replicate ops.size false):=
  ⟨by simp,fun j oj _ hl=>by rw[getD_replicate_false]at hl;simp at hl,fun t _ ht=>getD_in (by simpa using ht) (getD_replicate_false _ _)⟩
 have h1:=headQ_lexF (P:=P) (C:=C) (md:=.any) (n:=n) (F:=fun listed=>decide (Region.ready .any ops listed=[n]) && za3 .any ops [] (ops.size - (n+1)) (n+1) (listed.setIfInBounds n true))
  (fun listed hF j hj=>by
   simp only[Bool.and_eq_true,decide_eq_true_eq]at hF
   rw[hF.1]at hj
   have:j=n:=by simpa using hj
   omega)
  hsel (fun listed inv i hi hun t ht=>tailB_waits hs hc hn inv _ i rfl hi hun t ht) (ops.toList.take n) 0 _ a (fun j hj=>by
  have hj:j<n:=by omega
  simp[List.getElem?_take,hj]) (by simpa using hlen) inv (by rw[hlen];exact hlex) h
 rw[hlen]at h1
 refine wp_region_any hm ?_
 have e:ops.size=n+((ops.size - (n+1))+1):=by omega
 rw[show wpAny P .any ops Q ops.size=wpAny P .any ops Q (n+((ops.size - (n+1))+1)) from by rw[<- e]]
 refine headQ_any (C:=C) (fun listed a' w' hw' hL=>?_) n _ a _ hC h1
 obtain⟨⟨hF,inv'⟩,hK⟩:=hL
 simp only[Bool.and_eq_true,decide_eq_true_eq]at hF
 refine⟨fun h0=>(by rw[hF.1]at h0;cases h0),fun i hi=>?_⟩
 rw[hF.1]at hi
 have hin:i=n:=by simpa using hi
 subst hin
 refine wpOp_mono (fun a2 w2 hh=>?_) (hK w' hw')
 obtain⟨C2,hC2,hq2⟩:=hh
 have hl2:(ops.toList.drop (i+1)).length=ops.size - (i+1):=by simp
 have hri:i∈Region.ready .any ops listed:=by rw[hF.1];simp
 have inv2:HeadInv .any ops ops.size (listed.setIfInBounds i true):=by
  obtain⟨_,oi,hoi,hall⟩:=mem_ready.1 hri
  refine⟨by simp[inv'.size],fun j oj hj hl e he hb=>?_,fun t ht ht'=>absurd ht' (by omega)⟩
  by_cases hij:i=j
  ·subst hij
   have:oj=oi:=Option.some.inj (hj.symm.trans hoi)
   subst this
   exact getD_set_true (hall e he hb)
  ·rw[getD_set_ne false hij]at hl
   exact getD_set_true (inv'.closed j oj hj hl e he hb)
 have bar:∀ listed,HeadInv .any ops ops.size listed->∀ i,i<ops.size->listed.getD i true=false->∀ t,ops.size<=t->t∉Region.ready .any ops listed:=by
  intro listed _ i _ _ t ht hr
  obtain⟨_,ot,hot,_⟩:=mem_ready.1 hr
  have:=(Array.getElem?_eq_some_iff.1 hot).1
  omega
 have h2:=headQ_lex (P:=P) (C:=C2) (md:=.any) (n:=ops.size) (tl:=[]) (fun i hi=>by simp at hi) hsel bar (ops.toList.drop (i+1)) (i+1) _ a2 (fun j hj=>by simp[List.getElem?_drop]) (by rw[hl2];omega) inv2 (by rw[hl2];exact hF.2) hq2
 rw[hl2]at h2
 have h3:=headQ_any (C:=C2) (g:=0) (Q':=Q) (fun listed a' w' hw' hL=>⟨by simpa [seqP] using hL.1,hL.2 w' hw'⟩) _ _ a2 w2 hC2 h2
 exact h3
end
end Go.EvQ
set_option linter.unusedSimpArgs false
set_option linter.unusedVariables false
noncomputable section
namespace Go.Ev
open Go
variable {E:Env} {P:Program} {N:Nat}
theorem At.trans {DS:List Deferred} {ρ ρ1:Rho} {h h1:H} {w w1:World} (hx:Ext ρ h w ρ1 h1 w1) {fr:Fr} {h':H} {a:Act} {w':World} (s:At E N DS ρ1 h1 w1 fr h' a w'):At E N DS ρ h w fr h' a w':=by
 obtain⟨ρ',a1,a2,a3,a4,a5⟩:=s
 exact⟨ρ',a1,a2,a3,a4,hx.trans a5⟩
theorem jB {o:Oper} {a:Act} {w:World} {K K':Act->World->Prop} {QQ:Exit->Act->World->Prop} (hKK:∀ a w,K a w->K' a w) (hw:o.wp P a w K QQ):o.wp P a w K' QQ:=by
 unfold Oper.wp Oper.upon at hw ⊢
 split at hw
 ·exact hKK _ _ hw
 ·exact hKK _ _ hw
 ·exact hKK _ _ hw
 ·refine hw.mono ?_
  intro e w' he
  split at he
  ·exact hKK _ _ he
  ·exact he
  ·exact he
 ·exact hw.mono (fun v w' he=>hKK _ _ he)
 ·exact hw
 ·exact hw.elim
theorem zaj {Y:Ty} {all:List Oper} {o:Oper} {r:List Oper} {l:List OI} (h:zY Y N all (o::r)=some l):∃ x l',jQ Y N all o=some x/\zY Y N all r=some l'/\l=x::l':=by
 simp only[zY]at h
 split at h
 ·rename_i a b h1 h2
  simp at h;subst h
  exact⟨a,b,h1,h2,rfl⟩
 ·simp at h
theorem zdv {Y:Ty} (hY:TyOk P Y) {ops:Array Oper} {c:Ctx} (hcall:zi E P c.call) {k:K1}:∀ (l:List Oper) (l':List OI) (fr:Fr) (h:H) (fa:Fa),zY Y N ops.toList l=some l'->FaOk E fa->zaM l' c fr h fa k=0 ->
  ∃ fr' h' fa',k fr' h' fa'=0/\FaOk E fa'/\∀ {DS:List Deferred} ρ w a QQ,Sat E ρ h w->zw E ρ h.n.toNat fr (a:Act).tmps->N<=a.tmps.size->a.defers=DS->(∀ a' w',At E N DS ρ h w fr' h' a' w'->QQ .normal a' w')->wpList P ops QQ l a w
 | [],l',fr,h,fa,hl,hfa,hk=>by
  simp[zY]at hl;subst hl
  exact⟨fr,h,fa,hk,hfa,fun {DS} ρ w a QQ hs hf hN hd hq=>hq a w ⟨ρ,hf,hN,hd,hs,hs.refl E⟩⟩
 | o::r,l',fr,h,fa,hl,hfa,hk=>by
  obtain⟨x,l2,hx,hl2,rfl⟩:=zaj hl
  have hk:OI.go zam jd x c fr h fa (fun fr h fa=>zaM l2 c fr h fa k)=0:=hk
  obtain⟨fr1,h1,fa1,hk1,hfa1,h2⟩:=zaF hY hx hcall hfa hk
  obtain⟨fr2,h2',fa2,hk2,hfa2,h3⟩:=zdv hY hcall r l2 fr1 h1 fa1 hl2 hfa1 hk1
  refine⟨fr2,h2',fa2,hk2,hfa2,fun {DS} ρ w a QQ hs hf hN hd hq=>?_⟩
  have next:∀ a1 w1,At E N DS ρ h w fr1 h1 a1 w1->wpList P ops QQ r a1 w1:=by
   rintro a1 w1 ⟨ρ1,f1,n1,d1,s1,x1⟩
   exact h3 ρ1 w1 a1 QQ s1 f1 n1 d1 (fun a' w' hA=>hq a' w' (hA.trans x1))
  unfold wpList
  rcases h2 ρ w a QQ hs hf hN hd with ⟨hw,hwp⟩ | ⟨hw,hA⟩
  ·rw[if_pos hw]
   exact .inl (jB next hwp)
  ·rw[if_neg (by simp[hw])]
   exact next _ _ hA
def Cls (E:Env) (ρ:Rho) (h:H) (w0:World) (w:World):Prop:=Sat E ρ h w/\Ext ρ h w0 ρ h w
theorem zfK (h:H):hro h=⟨h.n,h.n,h.t⟩:=by cases h;rfl
theorem cls_ro {ρ ρ':Rho} {h h':H} {w0 w w':World} (hc:Cls E ρ h w0 w) (s:Sat E ρ' h' w') (x:Ext ρ (hro h) w ρ' h' w'):Cls E ρ h w0 w':=by
 rw[zfK]at x
 have hb:∀ p o,h.t.get p=some o->p.toNat<h.n.toNat:=fun p o hp=>(hc.1.bd p o hp).1
 have hg:∀ p o,h.t.get p=some o->h'.t.get p=some o:=fun p o hp=>by rw[x.old p (hb p o hp) (hb p o hp)];exact hp
 have ha:∀ p:Ev.P,p.toNat<h.n.toNat->ρ' p=ρ p:=x.agree
 refine⟨⟨fun p o hp=>?_,fun p q o o' hp hq l1 l2 he=>?_,hc.1.bd⟩,hc.2.trans ⟨Nat.le_refl _,rfl,fun _ _=>rfl,fun p o h1 h2=>?_,x.os,x.tape,x.output,x.size,fun b hb2 _=>x.keep b hb2 (fun p o hp _ hlo=>?_),fun _ _ _=>rfl,fun p o _ h1 h2=>⟨o,h1,h2⟩⟩⟩
 ·have h1:=s.obj p o (hg p o hp)
  rw[ha p (hb p o hp)]at h1
  exact O.Is_agree E (fun i hi=>(ha i hi).symm) (hc.1.bd p o hp).2 h1
 ·refine s.inj p q o o' (hg p o hp) (hg q o' hq) l1 l2 ?_
  rw[ha p (hb p o hp),ha q (hb q o' hq)];exact he
 ·have:=hb p o h2;omega
 ·have:=hb p o hp
  simp only at hlo
  omega
theorem zco {n:Ev.P}:(∀ v:V,v.bdB n=true->v.bd n.toNat):=by
 intro v
 exact V.rec (motive_1:=fun v=>v.bdB n=true->v.bd n.toNat) (motive_2:=fun l=>zbe n l=true->bdL n.toNat l)
  (fun _ _=>trivial) (fun _ _ _=>trivial) (fun _ _=>trivial) (fun _ _ _=>trivial)
  (fun id off h=>by simpa [V.bdB,V.bd,pLt] using h) (fun _=>trivial)
  (fun id off l c h=>by simpa [V.bdB,V.bd,pLt] using h) (fun id m h=>by simpa [V.bdB,V.bd,pLt] using h) (fun _=>trivial) (fun id off m h=>by simpa [V.bdB,V.bd,pLt] using h)
  (fun F p l h1 h2 h=>by simp only[V.bdB,Bool.and_eq_true]at h;exact⟨h1 h.1,h2 h.2⟩) (fun _=>trivial)
  (fun l h1 h=>h1 (by simpa [V.bdB] using h)) (fun l h1 h=>h1 (by simpa [V.bdB] using h))
  (fun id q h=>by simpa [V.bdB,V.bd,pLt] using h) (fun id q o h=>by simpa [V.bdB,V.bd,pLt] using h) (fun id h=>by simpa [V.bdB,V.bd,pLt] using h) (fun _=>trivial) (fun id h=>by simpa [V.bdB,V.bd,pLt] using h)
  (fun _=>trivial) (fun v r h1 h2 h=>by
   simp only[zbe]at h
   split at h
   ·rename_i hv;exact⟨h1 hv,h2 h⟩
   ·simp at h) v
theorem zaD {n:Ev.P} (l:List V) (h:zbe n l=true):bdL n.toNat l:=by
 induction l with
 | nil=>trivial
 | cons v r ih=>
  simp only[zbe]at h
  split at h
  ·rename_i hv;exact⟨zco v hv,ih h⟩
  ·simp at h
theorem jX {σ:Type} (h:H) (f:Ev.P->Ev.P->PT O->σ):hc h f=f h.n h.lo h.t:=by cases h;rfl
def QOne (P:Program) (ops:Array Oper) (C:World->Prop) (o:Oper) (a:Act) (K:Act->Prop):Prop:=
 (Region.wanted o (yielded ops a.tmps)=true/\∃ v,(∀ w,C w->o.quietAt P a C w v)/\K (a.put o.dst v))\/(Region.wanted o (yielded ops a.tmps)=false/\K (a.put o.dst undef))
theorem zxM {Y:Ty} (hY:TyOk P Y) {ops:Array Oper} {o:Oper} {x:OI} (hx:jQ Y N ops.toList o=some x) {c:Ctx} (hcall:zi E P c.call) {fr:Fr} {h:H} {fa:Fa} (hfa:FaOk E fa) {k:K1}
  (hk:OI.go qOp zwh x c fr h fa k=0) :
  ∃ fr' fa',k fr' h fa'=0/\FaOk E fa'/\∀ {DS:List Deferred} ρ w0 n a,Sat E ρ h w0->h.n.toNat<=n->zw E ρ n fr (a:Act).tmps->N<=a.tmps.size->a.defers=DS ->
   QOne P ops (Cls E ρ h w0) o a (fun a'=>zw E ρ n fr' a'.tmps/\N<=a'.tmps.size/\a'.defers=DS):=by
 obtain⟨d,g,hd,hg,hx⟩:=z8 hx
 have skip:∀ fa',jC d (.tup []) fr (fun fr=>k fr h fa')=0->∃ fr',k fr' h fa'=0/\∀ {DS:List Deferred} ρ n (a:Act),zw E ρ n fr a.tmps->N<=a.tmps.size->a.defers=DS->(fun a':Act=>zw E ρ n fr' a'.tmps/\N<=a'.tmps.size/\a'.defers=DS) (a.put o.dst undef):=by
  intro fa' hk
  obtain⟨fr',h1,h2⟩:=z7 hd hk
  refine⟨fr',h1,fun ρ n a hf hN hdf=>?_⟩
  obtain⟨g1,g2,g3⟩:=h2 E ρ n a hf hN (by trivial)
  exact⟨g1,g2,g3.trans hdf⟩
 rcases hx with ⟨i,hi,rfl⟩ | ⟨cl,f0,f,l,hop,hcal,hf0,hl,rfl⟩
 ·have hk:qOp d g i c fr h fa k=0:=hk
  rcases yE hg hfa hk with ⟨fa',hfa',hk,hw⟩ | ⟨fa',hfa',hk,hw⟩
  ·obtain⟨hst,hk⟩:=zn hk (zl _ _)
   obtain⟨v,h',hk,hrun⟩:=yh hY hi hst hk (zl _ _)
   obtain⟨fr',h1,h2⟩:=zP hfa' hd hk
   refine⟨fr',fa',h1,hfa',fun ρ w0 n a hs hn hf hN hdf=>.inl ⟨hw ρ _ a hf,v.γ E ρ,fun w hw=>?_,?_⟩⟩
   ·unfold Oper.quietAt
    rw[(hrun E ρ n a w hn hf hw.1).1]
    exact⟨rfl,rfl⟩
   ·obtain⟨g1,g2,g3⟩:=h2 ρ n a hf hN (hrun E ρ n a w0 hn hf hs).2
    exact⟨g1,g2,g3.trans hdf⟩
  ·obtain⟨fr',h1,h2⟩:=skip fa' hk
   exact⟨fr',fa',h1,hfa',fun ρ w0 n a hs hn hf hN hdf=>.inr ⟨hw ρ _ a hf,h2 ρ n a hf hN hdf⟩⟩
 ·have hk:zwh d g f l c fr h fa k=0:=hk
  rcases yE hg hfa hk with ⟨fa',hfa',hk,hw⟩ | ⟨fa',hfa',hk,hw⟩
  ·obtain⟨F,vl,hk,hrun⟩:=zun (P:=P) hop hcal hf0 hl hk
   obtain⟨hbd,hk⟩:=zn (show bc (hc (hro h) (fun n _ _=>zbe n vl)) _ _=0 from hk) (by simp)
   rw[jX,zfK]at hbd
   have hbd:=zaD vl hbd
   obtain⟨hca,v,h',fa2,hk,hfa2,hdo⟩:=hcall _ _ _ _ _ hk hfa'
   obtain⟨hvb,hk⟩:=zn hk (zl _ _)
   rw[jX]at hvb
   have hvb:=zco v hvb
   obtain⟨fr',h1,h2⟩:=z7 hd hk
   refine⟨fr',fa2,h1,hfa2,fun ρ w0 n a hs hn hf hN hdf=>.inl ⟨hw ρ _ a hf,v.γ E ρ,fun w hw=>?_,?_⟩⟩
   ·unfold Oper.quietAt
    rw[(hrun E ρ n a hf).2 w,hca]
    have hsr:Sat E ρ (hro h) w:=by rw[zfK];exact⟨hw.1.obj,hw.1.inj,hw.1.bd⟩
    refine⟨rfl,(hdo ρ w (by rw[zfK];exact hbd) hsr).mono ?_⟩
    rintro e w' ⟨ρ',rfl,hs',hx',hb⟩
    have hag:∀ p:Ev.P,p.toNat<h.n.toNat->ρ' p=ρ p:=by
     intro p hp;exact hx'.agree p (by rw[zfK];exact hp)
    refine⟨by rw[γ_agree E hag v hvb],cls_ro hw hs' hx'⟩
   ·obtain⟨g1,g2,g3⟩:=h2 E ρ n a hf hN (bd_mono hn v hvb)
    exact⟨g1,g2,g3.trans hdf⟩
  ·obtain⟨fr',h1,h2⟩:=skip fa' hk
   exact⟨fr',fa',h1,hfa',fun ρ w0 n a hs hn hf hN hdf=>.inr ⟨hw ρ _ a hf,h2 ρ n a hf hN hdf⟩⟩
theorem zaU {Y:Ty} (hY:TyOk P Y) {ops:Array Oper} {c:Ctx} (hcall:zi E P c.call) {k:K1} {h:H}:∀ (l:List Oper) (l':List OI) (fr:Fr) (fa:Fa),zY Y N ops.toList l=some l'->FaOk E fa->zdp l' c fr h fa k=0 ->
  ∃ fr' fa',k fr' h fa'=0/\FaOk E fa'/\∀ {DS:List Deferred} ρ w0 a (K:Act->Prop),Sat E ρ h w0->zw E ρ h.n.toNat fr (a:Act).tmps->N<=a.tmps.size->a.defers=DS ->
   (∀ a',zw E ρ h.n.toNat fr' (a':Act).tmps->N<=a'.tmps.size->a'.defers=DS->K a')->wpQuiet P ops (Cls E ρ h w0) K l a
 | [],l',fr,fa,hl,hfa,hk=>by
  simp[zY]at hl;subst hl
  exact⟨fr,fa,hk,hfa,fun ρ w a K hs hf hN hd hq=>hq a hf hN hd⟩
 | o::r,l',fr,fa,hl,hfa,hk=>by
  obtain⟨x,l2,hx,hl2,rfl⟩:=zaj hl
  have hk:OI.go qOp zwh x c fr h fa (fun fr h fa=>zdp l2 c fr h fa k)=0:=hk
  obtain⟨fr1,fa1,hk1,hfa1,h2⟩:=zxM hY hx hcall hfa hk
  obtain⟨fr2,fa2,hk2,hfa2,h3⟩:=zaU hY hcall r l2 fr1 fa1 hl2 hfa1 hk1
  refine⟨fr2,fa2,hk2,hfa2,fun ρ w0 a K hs hf hN hd hq=>?_⟩
  unfold wpQuiet
  rcases h2 ρ w0 _ a hs (Nat.le_refl _) hf hN hd with ⟨hw,v,hv,g1,g2,g3⟩ | ⟨hw,g1,g2,g3⟩
  ·rw[if_pos hw]
   exact⟨v,hv,h3 ρ w0 _ K hs g1 g2 g3 hq⟩
  ·rw[if_neg (by simp[hw])]
   exact h3 ρ w0 _ K hs g1 g2 g3 hq
end Go.Ev
end
set_option linter.unusedSimpArgs false
set_option linter.unusedVariables false
noncomputable section
namespace Go.EvQ
open Go
section
variable {P:Program} {ops:Array Oper} {Q:Exit->Act->World->Prop} {S:World->Prop} {D:List Nat}
def edgesOf (ops:Array Oper) (k:Nat):List Nat:=match ops[k]? with
 | some o=>(o.after.toList.filter (fun e=>Region.binds .any e)).map (fun e=>e.on)
 | none=>[]
def ancs (ops:Array Oper):Nat->Nat->List Nat
 | 0,_=>[]
 | n+1,k=>edgesOf ops k ++ (edgesOf ops k).flatMap (ancs ops n)
def Closed (ops:Array Oper) (L:Array Bool):Prop:=∀ k,L.getD k false=true->∀ i∈edgesOf ops k,L.getD i false=true
theorem ready_edges {L:Array Bool} {j:Nat} (h:j∈Region.ready .any ops L):∀ i∈edgesOf ops j,L.getD i false=true:=by
 obtain⟨_,o,ho,hall⟩:=mem_ready.1 h
 intro i hi
 simp only[edgesOf,ho,List.mem_map,List.mem_filter]at hi
 obtain⟨e,⟨he,hb⟩,rfl⟩:=hi
 exact hall e (by simpa using he) hb
theorem zeQ {L:Array Bool} {i:Nat} (h:L.getD i false=true):L.getD i true=true:=by
 rcases Nat.lt_or_ge i L.size with h' | h'
 ·simp[h']at h ⊢;exact h
 ·simp[Array.getElem?_eq_none h']at h ⊢
theorem Closed.add {L:Array Bool} (hc:Closed ops L) {j:Nat} (h:j∈Region.ready .any ops L):Closed ops (L.setIfInBounds j true):=by
 intro k hk i hi
 by_cases hkj:j=k
 ·subst hkj
  exact getD_set_true (ready_edges h i hi)
 ·rw[getD_set_ne false hkj]at hk
  exact getD_set_true (hc k hk i hi)
theorem Closed.none (n:Nat):Closed ops (Array.replicate n false):=by
 intro k hk
 rcases Nat.lt_or_ge k n with h' | h'
 ·simp[h']at hk
 ·simp[Array.getElem?_eq_none,h']at hk
theorem zcp {L:Array Bool} (hc:Closed ops L):∀ (n k:Nat),(∀ i∈edgesOf ops k,L.getD i false=true)->∀ i∈ancs ops n k,L.getD i false=true
 | 0,k,h,i,hi=>by simp[ancs]at hi
 | n+1,k,h,i,hi=>by
  simp only[ancs,List.mem_append,List.mem_flatMap]at hi
  rcases hi with hi | ⟨j,hj,hi⟩
  ·exact h i hi
  ·exact zcp hc n j (hc j (h j hj)) i hi
def doneD (D:List Nat) (L:Array Bool):Bool:=D.all (fun i=>L.getD i true)
def restOk (ops:Array Oper) (D:List Nat):Bool:=(List.range ops.size).all (fun k=>D.contains k || D.all (fun i=>(ancs ops ops.size k).contains i))
theorem ztw (h:restOk ops D=true) {k:Nat} {o:Oper} (ho:ops[k]? = some o) (hk:k∉D):∀ i∈D,i∈ancs ops ops.size k:=by
 intro i hi
 have hlt:k<ops.size:=(Array.getElem?_eq_some_iff.1 ho).1
 simp only[restOk,List.all_eq_true,List.mem_range,Bool.or_eq_true,List.contains_iff_mem]at h
 rcases h k hlt with h1 | h1
 ·exact absurd h1 hk
 ·exact h1 i hi
theorem zfn (hr:restOk ops D=true) {L:Array Bool} (hc:Closed ops L) {i j:Nat} (hi:i∈D) (hun:L.getD i true=false) (hj:j∈Region.ready .any ops L):j∈D:=by
 obtain⟨_,o,ho,_⟩:=mem_ready.1 hj
 by_cases hd:j∈D
 ·exact hd
 ·have h1:=zcp hc _ j (ready_edges hj) i (ztw hr ho hd i hi)
  rw[zeQ h1]at hun;cases hun
def wpAnyT (P:Program) (ops:Array Oper) (Q:Exit->Act->World->Prop) (S:World->Prop) (D:List Nat):Nat->Array Bool->Act->World->Prop
 | 0,L,a,w=>doneD D L=true/\wpAny P .any ops Q 0 L a w
 | fuel+1,L,a,w=>(doneD D L=true/\wpAny P .any ops Q (fuel+1) L a w) \/
  (doneD D L=false/\Region.ready .any ops L≠[]/\∀ i∈Region.ready .any ops L,wpOp P ops Q i (fun a' w'=>S w'/\wpAnyT P ops Q S D fuel (L.setIfInBounds i true) a' w') a w)
theorem ze1:∀ (fuel:Nat) (L:Array Bool) (a:Act) (w:World),wpAnyT P ops Q S D fuel L a w->wpAny P .any ops Q fuel L a w
 | 0,_,_,_,h=>h.2
 | fuel+1,_,_,_,h=>by
  rcases h with h | ⟨_,h1,h2⟩
  ·exact h.2
  ·exact⟨fun h0=>absurd h0 h1,fun i hi=>wpOp_mono (fun a' w' h'=>ze1 fuel _ a' w' h'.2) (h2 i hi)⟩
theorem zaV {L:Array Bool} {i:Nat} (hi:i∈D) (hun:L.getD i true=false):doneD D L=false:=by
 cases h:doneD D L with
 | false=>rfl
 | true=>
  simp only[doneD,List.all_eq_true]at h
  rw[h i hi]at hun;cases hun
theorem zeb {L:Array Bool} {i j:Nat} (h:doneD D (L.setIfInBounds i true)=true) (hj:j∈D) (hne:j≠i):L.getD j true=true:=by
 simp only[doneD,List.all_eq_true]at h
 have:=h j hj
 rwa [getD_set_ne true (Ne.symm hne)]at this
theorem T_first (hr:restOk ops D=true) {i:Nat} {oi:Oper} {v:Value} (hi:ops[i]? = some oi) (hD:i∈D) (hsel:∀ (j:Nat) (o:Oper) cs b,ops[j]? = some o->o.op≠.select cs b)
  (hQ:∀ c a w,Q (.panic c) (a.put oi.dst v) w->Q (.panic c) a w) :
  ∀ (fuel:Nat) (L:Array Bool) (a:Act) (w:World),Closed ops L ->
   (∀ j oj,ops[j]? = some oj->j≠i->L.getD j true=false->(∀ e∈oj.after,Region.binds .any e=true->e.on≠i)->oi.apart ops oj=true) ->
   i∈Region.ready .any ops L->YieldsIf P ops S oi v a->S w ->
   wpAnyT P ops Q S D fuel (L.setIfInBounds i true) (a.put oi.dst v) w->wpAnyT P ops Q S D (fuel+1) L a w:=by
 intro fuel
 induction fuel with
 | zero=>
  intro L a w hc _ hrd hy hS H
  have hun:=(mem_ready.1 hrd).1
  refine .inr ⟨zaV hD hun,fun h=>(by rw[h]at hrd;cases hrd),fun j hj=>?_⟩
  by_cases hji:j=i
  ·subst hji;exact hy.wpOp hi hS ⟨hS,H⟩
  ·have h1:=zeb H.1 (zfn hr hc hD hun hj) hji
   rw[(mem_ready.1 hj).1]at h1;cases h1
 | succ fuel ih=>
  intro L a w hc hfree hrd hy hS H
  have hun:=(mem_ready.1 hrd).1
  refine .inr ⟨zaV hD hun,fun h=>(by rw[h]at hrd;cases hrd),fun j hj=>?_⟩
  by_cases hji:j=i
  ·subst hji;exact hy.wpOp hi hS ⟨hS,H⟩
  ·rcases H with ⟨H,_⟩ | ⟨_,_,H⟩
   ·have h1:=zeb H (zfn hr hc hD hun hj) hji
    rw[(mem_ready.1 hj).1]at h1;cases h1
   have h1:=H j (ready_mono hj hji)
   obtain⟨hjun,oj,hoj,hall⟩:=mem_ready.1 hj
   have hnot:∀ e∈oj.after,Region.binds .any e=true->e.on≠i:=fun e he hb heq=>by
    have h1:=hall e he hb
    have h0:=(mem_ready.1 hrd).1
    rw[heq]at h1
    rw[zeQ h1]at h0;cases h0
   have h2:=wpOp_putIf hoj (hfree j oj hoj hji hjun hnot) (fun cs b=>hsel i oi cs b hi) (fun cs b=>hsel j oj cs b hoj) hQ hy h1
   have hfree':∀ k ok,ops[k]? = some ok->k≠i->(L.setIfInBounds j true).getD k true=false ->
     (∀ e∈ok.after,Region.binds .any e=true->e.on≠i)->oi.apart ops ok=true:=fun k ok hk hki hun hno=>by
    refine hfree k ok hk hki ?_ hno
    by_cases hjk:j=k
    ·subst hjk;exact hjun
    ·rw[getD_set_ne true hjk]at hun;exact hun
   refine wpOp_mono (fun a' w' h3=>⟨h3.2.1,ih (L.setIfInBounds j true) a' w' (hc.add hj) hfree' (ready_mono hrd (Ne.symm hji)) h3.1 h3.2.1 ?_⟩) h2
   rw[Array.setIfInBounds_comm _ _ hji]
   exact h3.2.2
theorem T_take (hr:restOk ops D=true) {i:Nat} {oi:Oper} {v:Value} {fuel:Nat} {L:Array Bool} {a:Act} {w:World} (hc:Closed ops L) (hi:ops[i]? = some oi) (hD:i∈D)
  (hs:Region.noSelect ops=true) (hf:Region.free .any ops L i=true) (hrd:(Region.ready .any ops L).contains i=true)
  (hQ:∀ c a w,Q (.panic c) (a.put oi.dst v) w->Q (.panic c) a w) (hy:YieldsIf P ops S oi v a) (hS:S w)
  (h:wpAnyT P ops Q S D fuel (L.setIfInBounds i true) (a.put oi.dst v) w):wpAnyT P ops Q S D (fuel+1) L a w:=
 T_first hr hi hD (Region.noSelect_spec hs) hQ fuel L a w hc (Region.free_spec hi hf) (by simpa using hrd) hy hS h
theorem T_one {i:Nat} {fuel:Nat} {L:Array Bool} {a:Act} {w:World} (hD:i∈D) (hr:Region.ready .any ops L=[i])
  (h:wpOp P ops Q i (fun a' w'=>S w'/\wpAnyT P ops Q S D fuel (L.setIfInBounds i true) a' w') a w):wpAnyT P ops Q S D (fuel+1) L a w:=by
 have hun:=(mem_ready.1 (show i∈Region.ready .any ops L by rw[hr];simp)).1
 refine .inr ⟨zaV hD hun,by rw[hr];simp,fun j hj=>?_⟩
 rw[hr]at hj
 have:j=i:=by simpa using hj
 subst this;exact h
theorem T_done {fuel:Nat} {L:Array Bool} {a:Act} {w:World} (hd:doneD D L=true) (h:wpAny P .any ops Q fuel L a w):wpAnyT P ops Q S D fuel L a w:=by
 cases fuel with
 | zero=>exact⟨hd,h⟩
 | succ n=>exact .inl ⟨hd,h⟩
def restOkQ (ops:Array Oper) (D:List Nat) (q:Nat):Bool:=(List.range ops.size).all (fun k=>Nat.beq k q || D.contains k || D.all (fun i=>(ancs ops ops.size k).contains i))
theorem zlJ {q:Nat} (h:restOkQ ops D q=true) {k:Nat} {o:Oper} (ho:ops[k]? = some o) (hk:k∉D) (hq:k≠q):∀ i∈D,i∈ancs ops ops.size k:=by
 intro i hi
 have hlt:k<ops.size:=(Array.getElem?_eq_some_iff.1 ho).1
 simp only[restOkQ,List.all_eq_true,List.mem_range,Bool.or_eq_true,List.contains_iff_mem,Nat.beq_eq]at h
 rcases h k hlt with (h1 | h1) | h1
 ·exact absurd h1 hq
 ·exact absurd h1 hk
 ·exact h1 i hi
theorem ztx {q:Nat} (hr:restOkQ ops D q=true) {L:Array Bool} (hc:Closed ops L) {i j:Nat} (hi:i∈D) (hun:L.getD i true=false) (hj:j∈Region.ready .any ops L) (hq:j≠q):j∈D:=by
 obtain⟨_,o,ho,_⟩:=mem_ready.1 hj
 by_cases hd:j∈D
 ·exact hd
 ·have h1:=zcp hc _ j (ready_edges hj) i (zlJ hr ho hd hq i hi)
  rw[zeQ h1]at hun;cases hun
theorem doneD_add {L:Array Bool} {j:Nat} (h:doneD D L=true):doneD D (L.setIfInBounds j true)=true:=by
 simp only[doneD,List.all_eq_true]at h ⊢
 intro i hi
 by_cases hij:j=i
 ·subst hij
  rcases Nat.lt_or_ge j L.size with h' | h'
  ·simp[h']
  ·simp[Array.getElem?_eq_none,h']
 ·rw[getD_set_ne true hij];exact h i hi
theorem zBN {q:Nat} (hr:restOkQ ops D q=true) (hqD:q∉D) (hqS:∀ a w K,S w->wpOp P ops Q q K a w->wpOp P ops Q q (fun a' w'=>S w'/\K a' w') a w) {i:Nat} {oi:Oper} {v:Value} (hi:ops[i]? = some oi) (hD:i∈D)
  (hsel:∀ (j:Nat) (o:Oper) cs b,ops[j]? = some o->o.op≠.select cs b) (hQ:∀ c a w,Q (.panic c) (a.put oi.dst v) w->Q (.panic c) a w) :
  ∀ (fuel:Nat) (L:Array Bool) (a:Act) (w:World),Closed ops L ->
   (∀ j oj,ops[j]? = some oj->j≠i->L.getD j true=false->(∀ e∈oj.after,Region.binds .any e=true->e.on≠i)->oi.apart ops oj=true) ->
   i∈Region.ready .any ops L->YieldsIf P ops S oi v a->S w ->
   wpAnyT P ops Q S D fuel (L.setIfInBounds i true) (a.put oi.dst v) w->wpAnyT P ops Q S D (fuel+1) L a w:=by
 intro fuel
 induction fuel with
 | zero=>
  intro L a w hc _ hrd hy hS H
  have hun:=(mem_ready.1 hrd).1
  refine .inr ⟨zaV hD hun,fun h=>(by rw[h]at hrd;cases hrd),fun j hj=>?_⟩
  by_cases hji:j=i
  ·subst hji;exact hy.wpOp hi hS ⟨hS,H⟩
  ·have h1:=ready_mono hj hji
   rw[H.2.1]at h1;cases h1
 | succ fuel ih=>
  intro L a w hc hfree hrd hy hS H
  have hun:=(mem_ready.1 hrd).1
  refine .inr ⟨zaV hD hun,fun h=>(by rw[h]at hrd;cases hrd),fun j hj=>?_⟩
  by_cases hji:j=i
  ·subst hji;exact hy.wpOp hi hS ⟨hS,H⟩
  ·have h1:wpOp P ops Q j (fun a' w'=>S w'/\wpAnyT P ops Q S D fuel ((L.setIfInBounds i true).setIfInBounds j true) a' w') (a.put oi.dst v) w:=by
    rcases H with ⟨H,H2⟩ | ⟨_,_,H⟩
    ·by_cases hjq:j=q
     ·subst hjq
      exact wpOp_mono (fun a' w' h=>⟨h.1,T_done (doneD_add H) h.2⟩) (hqS _ _ _ hS (H2.2 j (ready_mono hj hji)))
     ·have h1:=zeb H (ztx hr hc hD hun hj hjq) hji
      rw[(mem_ready.1 hj).1]at h1;cases h1
    ·exact H j (ready_mono hj hji)
   obtain⟨hjun,oj,hoj,hall⟩:=mem_ready.1 hj
   have hnot:∀ e∈oj.after,Region.binds .any e=true->e.on≠i:=fun e he hb heq=>by
    have h1:=hall e he hb
    have h0:=(mem_ready.1 hrd).1
    rw[heq]at h1
    rw[zeQ h1]at h0;cases h0
   have h2:=wpOp_putIf hoj (hfree j oj hoj hji hjun hnot) (fun cs b=>hsel i oi cs b hi) (fun cs b=>hsel j oj cs b hoj) hQ hy h1
   have hfree':∀ k ok,ops[k]? = some ok->k≠i->(L.setIfInBounds j true).getD k true=false ->
     (∀ e∈ok.after,Region.binds .any e=true->e.on≠i)->oi.apart ops ok=true:=fun k ok hk hki hun hno=>by
    refine hfree k ok hk hki ?_ hno
    by_cases hjk:j=k
    ·subst hjk;exact hjun
    ·rw[getD_set_ne true hjk]at hun;exact hun
   refine wpOp_mono (fun a' w' h3=>⟨h3.2.1,ih (L.setIfInBounds j true) a' w' (hc.add hj) hfree' (ready_mono hrd (Ne.symm hji)) h3.1 h3.2.1 ?_⟩) h2
   rw[Array.setIfInBounds_comm _ _ hji]
   exact h3.2.2
theorem T_takeQ {q:Nat} (hr:restOkQ ops D q=true) (hqD:q∉D) (hqS:∀ a w K,S w->wpOp P ops Q q K a w->wpOp P ops Q q (fun a' w'=>S w'/\K a' w') a w) {i:Nat} {oi:Oper} {v:Value} {fuel:Nat} {L:Array Bool} {a:Act} {w:World}
  (hc:Closed ops L) (hi:ops[i]? = some oi) (hD:i∈D) (hs:Region.noSelect ops=true) (hf:Region.free .any ops L i=true) (hrd:(Region.ready .any ops L).contains i=true)
  (hQ:∀ c a w,Q (.panic c) (a.put oi.dst v) w->Q (.panic c) a w) (hy:YieldsIf P ops S oi v a) (hS:S w)
  (h:wpAnyT P ops Q S D fuel (L.setIfInBounds i true) (a.put oi.dst v) w):wpAnyT P ops Q S D (fuel+1) L a w:=
 zBN hr hqD hqS hi hD (Region.noSelect_spec hs) hQ fuel L a w hc (Region.free_spec hi hf) (by simpa using hrd) hy hS h
theorem T_some {i:Nat} {fuel:Nat} {L:Array Bool} {a:Act} {w:World} (hD:i∈D) (hi:i∈Region.ready .any ops L)
  (h:∀ j∈Region.ready .any ops L,wpOp P ops Q j (fun a' w'=>S w'/\wpAnyT P ops Q S D fuel (L.setIfInBounds j true) a' w') a w):wpAnyT P ops Q S D (fuel+1) L a w:=
 .inr ⟨zaV hD (mem_ready.1 hi).1,fun h0=>(by rw[h0]at hi;cases hi),h⟩
theorem T_q {q:Nat} {fuel:Nat} {L:Array Bool} {a:Act} {w:World} (hnd:doneD D L=false) (hr:Region.ready .any ops L=[q])
  (h:wpOp P ops Q q (fun a' w'=>S w'/\wpAnyT P ops Q S D fuel (L.setIfInBounds q true) a' w') a w):wpAnyT P ops Q S D (fuel+1) L a w:=
 .inr ⟨hnd,by rw[hr];simp,fun j hj=>by
  rw[hr]at hj
  have:j=q:=by simpa using hj
  subst this;exact h⟩
theorem put_op {j:Nat} {oq oj:Oper} {v:Value} (hj:ops[j]? = some oj) (hap:oq.apart ops oj=true) (hsj:∀ cs b,oj.op≠.select cs b) (hp:∀ c a w,¬ Q (.panic c) a w) {K:Act->World->Prop} {a:Act} {w:World}
  (h:wpOp P ops Q j (fun a' w'=>K (a'.put oq.dst v) w') a w):wpOp P ops Q j K (a.put oq.dst v) w:=by
 obtain⟨h1,h2,h3⟩:=Oper.apart_spec hap
 unfold wpOp at *
 simp only[hj]at *
 rw[wanted_put oj a oq.dst v h1]
 split
 ·rename_i hw
  simp only[hw,if_true]at h
  rcases h with h | ⟨hasks,hlets⟩
  case inr=>exact .inr ⟨by unfold Oper.asks at *;rw[execOp_put oj hsj a oq.dst v h1];exact hasks,hlets⟩
  refine .inl ?_
  unfold Oper.wp at *
  rw[execOp_put oj hsj a oq.dst v h1]
  generalize (execOp a.eval oj).run P w=r at *
  cases r with
  | ok n w'=>
   cases n <;> simp only[Oper.upon]at h ⊢
   case value u=>rw[Act.put_comm a v u h2];exact h
   case skip=>rw[Act.put_comm a v undef h2];exact h
   case defer d=>
    rw[<- Act.put_comm _ v undef h2,<- Act.put_defers]at h
    exact h
   case enter f args=>
    refine Calls.mono h fun e w'' he=>?_
    cases e with
    | returned u=>
     show K ((a.put oq.dst v).put oj.dst u) w''
     rw[Act.put_comm a v u h2];exact he
    | panicked c=>exact absurd he (hp _ _ _)
    | outgrown=>exact he
   case row row args=>exact Rows.mono h fun u w'' he=>(by rw[Act.put_comm a v u h2];exact he)
  | halt x w'=>
   cases x <;> simp only[Oper.upon]at h ⊢
   case panic u=>exact absurd h (hp _ _ _)
 ·rename_i hw
  simp only[hw]at h
  rw[Act.put_comm a v undef h2];exact h
theorem wp_region_T {id:Nat} {a:Act} {w:World} (hm:P.follows .mixedOrders=true)
  (h:wpAnyT P ops Q S D ops.size (Array.replicate ops.size false) a { w with drawn:=w.drawn+1 }):(Code.region id ops true).wp P Q a w:=
 wp_region_any hm (ze1 _ _ _ _ h)
end
end Go.EvQ
end
set_option linter.unusedSimpArgs false
set_option linter.unusedVariables false
noncomputable section
namespace Go.Ev
open Go
theorem jn {a b:Ev.P} (h:pEq a b=true):a=b:=P.toNat_inj (by simpa [pEq] using h)
theorem zeU {a b:Bool} (h:zmg a b=true):a=b:=by cases a <;> cases b <;> simp[zmg,bc]at h ⊢
mutual
theorem V.beq_ok:∀ {x y:V},V.beq x y=true->x=y
 | .b x,y,h=>by cases y <;> simp only[V.beq]at h <;> first | (simp at h;done) | rw[zeU h]
 | .i k n,y,h=>by
  cases y <;> simp only[V.beq,Bool.and_eq_true]at h <;> first | (simp at h;done) | (rw[yn h.1];have:=h.2;rw[jb]at this;rw[of_decide_eq_true this])
 | .sb c,y,h=>by cases y <;> simp only[V.beq]at h <;> first | (simp at h;done) | rw[SB.beq_eq h]
 | .si k e,y,h=>by cases y <;> simp only[V.beq,Bool.and_eq_true]at h <;> first | (simp at h;done) | rw[yn h.1,SE.beq_eq h.2]
 | .ptr a o,y,h=>by cases y <;> simp only[V.beq,Bool.and_eq_true,Nat.beq_eq]at h <;> first | (simp at h;done) | rw[jn h.1,h.2]
 | .nil,y,h=>by cases y <;> simp only[V.beq]at h <;> first | (simp at h;done) | rfl
 | .sl a o n c,y,h=>by cases y <;> simp only[V.beq,Bool.and_eq_true,Nat.beq_eq]at h <;> first | (simp at h;done) | rw[jn h.1.1.1,h.1.1.2,h.1.2,h.2]
 | .vec a n,y,h=>by cases y <;> simp only[V.beq,Bool.and_eq_true,Nat.beq_eq]at h <;> first | (simp at h;done) | rw[jn h.1,h.2]
 | .vt a o n,y,h=>by cases y <;> simp only[V.beq,Bool.and_eq_true,Nat.beq_eq]at h <;> first | (simp at h;done) | rw[jn h.1.1,h.1.2,h.2]
 | .snil,y,h=>by cases y <;> simp only[V.beq]at h <;> first | (simp at h;done) | rfl
 | .fn F p c,y,h=>by cases y <;> simp only[V.beq,Bool.and_eq_true,Nat.beq_eq]at h <;> first | (simp at h;done) | rw[h.1.1,jl h.1.2,jl h.2]
 | .fnil,y,h=>by cases y <;> simp only[V.beq]at h <;> first | (simp at h;done) | rfl
 | .agg l,y,h=>by cases y <;> simp only[V.beq]at h <;> first | (simp at h;done) | rw[jl h]
 | .tup l,y,h=>by cases y <;> simp only[V.beq]at h <;> first | (simp at h;done) | rw[jl h]
 | .fs a n,y,h=>by cases y <;> simp only[V.beq,Bool.and_eq_true,Nat.beq_eq]at h <;> first | (simp at h;done) | rw[jn h.1,h.2]
 | .fp a n o,y,h=>by cases y <;> simp only[V.beq,Bool.and_eq_true,Nat.beq_eq]at h <;> first | (simp at h;done) | rw[jn h.1.1,h.1.2,h.2]
 | .mp a,y,h=>by cases y <;> simp only[V.beq]at h <;> first | (simp at h;done) | rw[jn h]
 | .mnil,y,h=>by cases y <;> simp only[V.beq]at h <;> first | (simp at h;done) | rfl
 | .yd a,y,h=>by cases y <;> simp only[V.beq]at h <;> first | (simp at h;done) | rw[jn h]
theorem jl:∀ {x y:List V},yZ x y=true->x=y
 | [],y,h=>by cases y <;> simp only[yZ]at h <;> first | (simp at h;done) | rfl
 | a::r,y,h=>by cases y <;> simp only[yZ,Bool.and_eq_true]at h <;> first | (simp at h;done) | rw[V.beq_ok h.1,jl h.2]
end
theorem zdb:∀ {x y:Tr V},zdc x y=true->x=y
 | .nil,y,h=>by cases y <;> simp only[zdc]at h <;> first | (simp at h;done) | rfl
 | .leaf a,y,h=>by cases y <;> simp only[zdc]at h <;> first | (simp at h;done) | rw[V.beq_ok h]
 | .node l r,y,h=>by cases y <;> simp only[zdc,Bool.and_eq_true]at h <;> first | (simp at h;done) | rw[zdb h.1,zdb h.2]
theorem ze2:∀ {x y:List (V × V)},ze3 x y=true->x=y
 | [],y,h=>by cases y <;> simp only[ze3]at h <;> first | (simp at h;done) | rfl
 | (a,b)::r,y,h=>by
  cases y with
  | nil=>simp[ze3]at h
  | cons p s=>
   obtain⟨c,d⟩:=p
   simp only[ze3,Bool.and_eq_true]at h
   rw[V.beq_ok h.1.1,V.beq_ok h.1.2,ze2 h.2]
theorem ztH:∀ {x y:List Nat},ztI x y=true->x=y
 | [],y,h=>by cases y <;> simp only[ztI]at h <;> first | (simp at h;done) | rfl
 | a::r,y,h=>by cases y <;> simp only[ztI,Bool.and_eq_true,Nat.beq_eq]at h <;> first | (simp at h;done) | rw[h.1,ztH h.2]
theorem zzX {x y:Option Ev.P} (h:opBeq x y=true):x=y:=by
 cases x <;> cases y <;> simp only[opBeq]at h <;> first | (simp at h;done) | rfl | rw[jn h]
theorem OX.beq_ok {x y:OX} (h:OX.beq x y=true):x=y:=by
 cases x <;> cases y <;> simp only[OX.beq,Bool.and_eq_true,Nat.beq_eq]at h <;> first
  | (simp at h;done)
  | rw[ze2 h]
  | rw[zzX h.1.1.1,h.1.1.2,ztH h.1.2,h.2]
  | rw[h.1.1,h.1.2,h.2]
theorem O.beq_ok:∀ {x y:O},O.beq x y=true->x=y:=by
 intro x y h
 cases x <;> cases y <;> simp only[O.beq,Bool.and_eq_true,Nat.beq_eq]at h <;> first
  | (simp at h;done)
  | rfl
  | rw[h.1,jl h.2]
  | rw[ze2 h]
  | rw[OX.beq_ok h]
  | rw[h.1.1.1.1,h.1.1.1.2,h.1.1.2,V.beq_ok h.1.2,zdb h.2]
  | rw[h.1.1.1,h.1.1.2,h.1.2,jl h.2]
  | rw[h.1.1.1.1,h.1.1.1.2,h.1.1.2,h.1.2,zdb h.2]
  | rw[h.1.1.1.1,h.1.1.1.2,SE.beq_eq h.1.1.2,SE.beq_eq h.1.2,jl h.2]
theorem jD {x y:Option O} (h:zaH x y=true):x=y:=by
 cases x <;> cases y <;> simp only[zaH]at h <;> first | (simp at h;done) | rfl | rw[O.beq_ok h]
end Go.Ev
end
