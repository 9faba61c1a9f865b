/-
  The runs, the contract.
-/
import Derived.Test.YtcohamkngfehlaaGreatDoorRows
import Derived.Test.YtcohamkngfehlaaGreatDoorCards
import Derived.Test.YtcohamkngfehlaaGreatDoorTie
import Derived.Test.YtcohamkngfehlaaGreatDoorLen
import Derived.Test.YtcohamkngfehlaaGreatDoorTL
import Derived.Test.YtcohamkngfehlaaGreatDoorHF
import Derived.Test.YtcohamkngfehlaaGreatDoorXAny
import Derived.ProofKit
import Derived.OpenShut
import Derived.ChangeSlices
import Derived.Deep.DeepHandedRow
import Derived.Lib.LaidTab
set_option linter.unusedSimpArgs false
set_option linter.unusedVariables false
noncomputable section
namespace Go.Proofs.YtcohamkngfehlaaGreatDoor
open Go Go.Ev Go.Ev.X Go.ChangeShapes Go.WideShapes Go.ChangeAt Go.RowKit
theorem zlX {E:Env}:ju E:=fun E' _=>⟨zpZ Tryz.call197 (fun x w h0 h1=>Tryz.bits_Len64 x w h0 h1),any_ok Tryz.call239 zra⟩
theorem sat_nil {E:Env} (ρ:Rho) (w:World):Sat E ρ ⟨.h,.h,.e⟩ w:=
 ⟨fun p o hp=>absurd (show (none:Option O)=some o from (PT.get_e p).symm.trans hp) (by simp),fun p q o o' hp=>absurd (show (none:Option O)=some o from (PT.get_e p).symm.trans hp) (by simp),
  fun p o hp=>absurd (show (none:Option O)=some o from (PT.get_e p).symm.trans hp) (by simp)⟩
theorem znL {ρ ρ':Rho} {h':H} {w w':World} (x:Ext ρ ⟨.h,.h,.e⟩ w ρ' h' w'):Below w.heap.size w w':=
 ⟨x.os,x.tape,x.output,x.size,fun b hb=>x.keep b hb fun p o hp=>absurd (show (none:Option O)=some o from (PT.get_e p).symm.trans hp) (by simp)⟩
theorem zk4 {E:Env} {F:Nat} {l:List V} {fa:Fa} {inner:zW} (hi:zd E Tryz.prog inner) (hfa:FaOk E fa) (hr:zj8 cx1 0 inner F l ⟨.h,.h,.e⟩ fa Go.Ev.X.endB=0) (hl:bdL 1 l) (W:World) :
  Calls Tryz.prog F (γL E (fun _=>⟨0,0⟩) l).toArray W fun e w'=>e=.returned (.bool true)/\Below W.heap.size W w':=by
 obtain⟨_,v,h',fa',hk,_,hc⟩:=zdG (zgV zlX) 0 hi _ _ _ _ _ hr hfa
 obtain⟨hv,_⟩:=zl (show bc (V.beq v (.b true)) 0 1=0 from hk) (by simp)
 have hv:=V.beq_ok hv
 subst hv
 refine(hc (fun _=>⟨0,0⟩) W hl (sat_nil _ W)).mono ?_
 rintro e w' ⟨ρ',rfl,_,x,_⟩
 exact⟨rfl,znL x⟩
theorem zgX {P:Program} {w:World} {r:Reach} {base:Nat} {a:Addr} {e:TypeId} {n:Nat} (h:w.has P r base a e n):∃ b off cs t fz,a=⟨b,off,none⟩/\w.heap[b]? = some (.cells cs t fz):=by
 obtain⟨_,h2,row,cells,h3,_⟩:=h
 obtain⟨b,off,sp⟩:=a
 have h2:sp=none:=h2
 subst h2
 unfold World.shape? at h3
 split at h3
 ·rename_i c el fr hh
  exact⟨b,off,c,el,fr,rfl,hh⟩
 ·cases h3
theorem sat_row {E:Env} {W:World} (hW:W.heap[(E.s 0).b]? = some (.cells (E.s 0).cs (E.s 0).t (E.s 0).fz)) (he:(E.s 0).esz=1) (hl:E.i 1=(E.s 0).len):Sat E (fun _=>⟨(E.s 0).b,0⟩) hR W:=by
 have get:∀ p o,hR.t.get p=some o->p=.h/\o=.row 0 1 (.v 1) (.v 2) []:=by
  intro p o hp
  by_cases h:p=.h
  ·subst h
   have:some (O.row 0 1 (.v 1) (.v 2) [])=some o:=hp
   exact⟨rfl,(Option.some.inj this).symm⟩
  ·have:hR.t.get p=(PT.e:PT O).get p:=PT.get_set_other .h p .e _ (fun e=>h e.symm)
   rw[this,PT.get_e]at hp
   cases hp
 refine⟨fun p o hp=>?_,fun p q o o' hp hq _ _ _=>?_,fun p o hp=>?_⟩
 ·obtain⟨rfl,rfl⟩:=get p o hp
  exact⟨rfl,hW,he,hl,fun h=>absurd rfl h⟩
 ·rw[(get p o hp).1,(get q o' hq).1]
 ·obtain⟨rfl,rfl⟩:=get p o hp
  exact⟨by decide,trivial⟩
theorem nil_any (W:World):Calls Tryz.prog 5 #[.slice none 0 0] W fun e w'=>e=.returned (.bool true)/\Below W.heap.size W w':=by
 have:=zk4 (E:=⟨fun _=>0,fun _=>false,fun _=>⟨0,0,0,0,0,0,0,#[],(0,0)⟩⟩) (zkb (zgV zlX) (zfk zlX)) FaOk.nil r_nil (l:=[.snil]) ⟨trivial,trivial⟩ W
 exact this
theorem arr_any (W:World) {b off len cap:Nat} {cs:Array Value} {t:TypeId} {fz:Nat × Nat} (hW:W.heap[b]? = some (.cells cs t fz)) {zs:List Int} (hz:len<=zs.length)
  (hc:∀ i,i<zs.length->cs[off+i]? = some (.int .u64 (zs.getD i 0))) (hr:∀ n∈zs,(Lit.int .u64 n).wf=true) :
  Calls Tryz.prog 5 #[.slice (some ⟨b,off,none⟩) len cap] W fun e w'=>e=.returned (.bool true)/\Below W.heap.size W w':=by
 obtain⟨E,hE⟩:∃ E:Env,E=⟨fun _=>len,fun _=>false,fun _=>⟨b,off,len,cap,1,0,t,cs,fz⟩⟩:=⟨_,rfl⟩
 have h1:E.i 1=(E.s 0).len:=by rw[hE]
 have hs:E.s 0=⟨b,off,len,cap,1,0,t,cs,fz⟩:=by rw[hE]
 have hD:RowW (E.s 0) (fun i=>zs.getD i 0):=by
  rw[hs]
  intro i hi
  have hi:i<len:=hi
  refine⟨hc i (by omega),?_⟩
  have hm:zs.getD i 0∈zs:=by
   rw[List.getD_eq_getElem?_getD,List.getElem?_eq_getElem (by omega)]
   exact List.getElem_mem _
  have:=hr _ hm
  simp[Lit.wf,IntKind.min,IntKind.max,IntKind.signed,IntKind.bits]at this ⊢
  omega
 have hsat:Sat E (fun _=>⟨(E.s 0).b,0⟩) hR W:=sat_row (by rw[hs];exact hW) (by rw[hs]) h1
 have hn:∀ (p:Ev.P) (o:O),hR.t.get p=some o->o.live=true->hR.lo.toNat<=p.toNat->W.heap.size<=((fun _=>(⟨(E.s 0).b,0⟩:Pl)) p).b:=by
  intro p o hp _ h2
  have:=(hsat.bd p o hp).1
  have e1:hR.n.toNat=2:=rfl
  have e2:hR.lo.toNat=2:=rfl
  omega
 have:=zmu (fun E=>zlX) h1 ⟨_,hD⟩ hsat hn
 have hargs:(γL E (fun _=>⟨(E.s 0).b,0⟩) [.fs .h 0]).toArray=#[.slice (some ⟨b,off,none⟩) len cap]:=by
  rw[hE]
  rfl
 rw[hargs]at this
 exact this
theorem zfy {H:Type} {enc:TypeId × Value->H} {P:Program} (hl:laidOutB P=true) {W W':World} (hb:Below W.heap.size W W') :
  ∀ (ts:List TypeId) (vs:List Value) (ds:List (DataW H)) (ps:List MemPlace),(∀ t∈ts,P.readableRec t=true/\t<P.types.size) ->
  DataW.TrodAll enc P W 0 (fun _=>true) true ts vs ds ps->(∀ x∈ps,x.block<W.heap.size)->DataW.TrodAll enc P W' 0 (fun b=>decide (b<W.heap.size)) true ts vs ds ps:=by
 intro ts
 induction ts with
 | nil=>
  intro vs ds ps _ h _
  obtain⟨rfl,rfl,rfl⟩:=trodAll_nil h
  exact trodAll_mk0
 | cons t ts ih=>
  intro vs ds ps hr h hlt
  obtain⟨v0,vs0,d0,ds0,p0,q0,rfl,rfl,rfl,h0,r0⟩:=trodAll_cons h
  have h1:=hr t (by simp)
  exact trodAll_cons_mk (Below.trod hl h1.1 h1.2 h0 hb (fun x hx=>hlt x (by simp[hx]))) (ih _ _ _ (fun t' ht'=>hr t' (by simp[ht'])) r0 (fun x hx=>hlt x (by simp[hx])))
theorem zp0 {H:Type} {enc:TypeId × Value->H} {P:Program} {f:Func} {s:ChangeSpec} {W W':World} {args:Array Value} {ds gs:List (DataW H)} {before:List MemPlace} {tb:TypeId}
  (hl:laidOutB P=true) (hr:∀ t∈f.params.toList,P.readableRec t=true/\t<P.types.size) (hvars:s.vars=[]) (hres:f.resultTypes=#[tb]) (htb:P.underlying tb=some .bool)
  (hW:DataW.Whole enc P f.params.toList s.vars false W args.toList ds gs before) (hb:Below W.heap.size W W')
  (hfn:s.fn H (ds ++ gs)={ results:=[.lit (.bool true)],args:=ds }) :
  s.post enc P f false true false false W args (.bool true) W':=by
 have hW0:=hW
 obtain⟨p,q,hA,hV,hpq,hfz,hnd⟩:=hW
 refine⟨ds,gs,before,[],p,[],hW0,?_,?_,?_,hb.frame _,fun h=>by cases h⟩
 ·rw[hfn,hres]
  exact trodAll_cons_mk (shut_bool htb true) trodAll_mk0
 ·rw[hfn]
  refine zfy hl hb _ _ _ _ hr hA (fun x hx=>?_)
  exact hW0.lt x (by rw[hpq];simp[hx])
 ·rw[hvars,hfn]
  rfl
theorem own:ownKnob Tryz.prog.godebug=none:=by kernel_rfl
theorem laidOut:laidOutB Tryz.prog=true:=by kernel_rfl
set_option maxRecDepth 100000 in
theorem contract (H:Type) (enc:TypeId × Value->H) (W:World) (base:Nat) (args:Array Value) (ds gs:List (DataW H)) (before:List MemPlace)
  (hval0:∀ (j:Nat) t v,Tryz.f5.params[j]? = some t->args[j]? = some v->Value.okWide Tryz.prog W .any base t v)
  (hW:DataW.Whole enc Tryz.prog Tryz.f5.params.toList Rows.topCallsSpec.vars false W args.toList ds gs before) (hL:laidMetH Tryz.prog Rows.topCallsRow.laid W) :
  Calls Tryz.prog 5 args W fun e W'=>∃ v,e=.returned v/\Rows.topCallsSpec.post enc Tryz.prog Tryz.f5 false true false false W args v W':=by
 have hval:=hval0
 have hW':=hW
 obtain⟨p,q,hA0,hV,rfl,hfz,hnd⟩:=hW
 have hA:DataW.TrodAll enc Tryz.prog W 0 (fun _=>true) true Tryz.f5.params.toList args.toList ds p:=hA0
 rw[Tryz.params5]at hA hval
 obtain⟨v0,vs0,d0,ds0,p0,q0,hargs,rfl,rfl,h0,r0⟩:=trodAll_cons hA
 obtain⟨rfl,rfl,rfl⟩:=trodAll_nil r0
 obtain rfl:args=#[v0]:=by cases args;simp_all
 obtain⟨rfl,rfl⟩:=trodVars_none hV
 have hrun:Calls Tryz.prog 5 #[v0] W fun e w'=>e=.returned (.bool true)/\Below W.heap.size W w':=by
  have hv:=hval 0 33 _ rfl rfl
  obtain⟨a0,len0,cap0,rfl⟩:=okWide_slice Tryz.underlying33 hv
  obtain⟨fuel,hf⟩:=h0
  have hc1:Tryz.prog.cellsOf 41=1:=by kernel_rfl
  rcases open_ints Tryz.underlying33 Tryz.underlying41 hc1 hf with ⟨he,_⟩ | ⟨ad,len,cap,zs,he,_,hlc,_,hzl,_,hcell,hwf⟩
  ·simp only[Value.cells]at he
   injection he with he _
   injection he with e1 e2 e3
   subst e1;subst e2;subst e3
   exact nil_any W
  ·simp only[Value.cells]at he
   injection he with he _
   injection he with e1 e2 e3
   subst e1;subst e2;subst e3
   have hh:W.has Tryz.prog .any base ad 41 cap0:=by
    unfold Value.okWide at hv
    rw[Tryz.underlying33]at hv
    simp only[Cell.okWide]at hv
    rw[Tryz.underlying33]at hv
    simp only[Cell.ok]at hv
    rw[Tryz.underlying33]at hv
    exact hv.2.2
   obtain⟨b,off,cs,t,fz,rfl,hb⟩:=zgX hh
   refine arr_any W hb (zs:=zs) (by rw[hzl];simp;omega) (fun i hi=>?_) hwf
   have:=hcell i hi
   rw[ya]at this
   simpa [World.cell?,hb] using this
 refine hrun.mono fun e W' ⟨he,hk⟩=>?_
 subst he
 refine⟨_,rfl,zp0 laidOut ?_ rfl rfl Tryz.underlying4 hW' hk rfl⟩
 rw[Tryz.params5]
 intro t ht
 simp only[List.mem_cons,List.not_mem_nil,or_false]at ht
 subst ht
 all_goals exact⟨by kernel_rfl,of_decide_eq_true (by kernel_rfl)⟩
end Go.Proofs.YtcohamkngfehlaaGreatDoor
end
