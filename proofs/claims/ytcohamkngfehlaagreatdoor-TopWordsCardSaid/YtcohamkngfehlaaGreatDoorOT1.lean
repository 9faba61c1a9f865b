import Derived.Test.YtcohamkngfehlaaGreatDoorRows
import Derived.Test.YtcohamkngfehlaaGreatDoorCards
import Derived.Test.YtcohamkngfehlaaGreatDoorTie
import Derived.Test.YtcohamkngfehlaaGreatDoorLen
import Derived.Test.YtcohamkngfehlaaGreatDoorTL
import Derived.Test.YtcohamkngfehlaaGreatDoorHF
import Derived.Test.YtcohamkngfehlaaGreatDoorXAny
import Derived.ProofKit
import Derived.OpenShut
import Derived.ChangeSlices
import Derived.Deep.Grids
import Derived.Deep.DeepHandedRow
import Derived.Lib.LaidTab
set_option linter.unusedSimpArgs false
set_option linter.unusedVariables false
noncomputable section
namespace Go.Proofs.YtcohamkngfehlaaGreatDoor
open Go Go.Ev Go.Ev.X Go.ChangeShapes Go.WideShapes Go.ChangeAt Go.RowKit
theorem zjL {E:Env}:jz E:=fun E' _=>⟨zpK Tryz.call197 (fun x w h0 h1=>Tryz.bits_Len64 x w h0 h1),any_ok Tryz.call239 zqY⟩
theorem sat_nil {E:Env} (ρ:Rho) (w:World):Sat E ρ ⟨.h,.h,.e⟩ w:=
 ⟨fun p o hp=>absurd (show (none:Option O)=some o from (PT.get_e p).symm.trans hp) (by simp),fun p q o o' hp=>absurd (show (none:Option O)=some o from (PT.get_e p).symm.trans hp) (by simp),
  fun p o hp=>absurd (show (none:Option O)=some o from (PT.get_e p).symm.trans hp) (by simp)⟩
theorem zdc {P:Program} {w:World} {r:Reach} {base:Nat} {a:Addr} {e:TypeId} {n:Nat} (h:w.has P r base a e n):∃ b off cs t fz,a=⟨b,off,none⟩/\w.heap[b]? = some (.cells cs t fz):=by
 obtain⟨_,h2,row,cells,h3,_⟩:=h
 obtain⟨b,off,sp⟩:=a
 have h2:sp=none:=h2
 subst h2
 unfold World.shape? at h3
 split at h3
 ·rename_i c el fr hh
  exact⟨b,off,c,el,fr,rfl,hh⟩
 ·cases h3
theorem zlB {E:Env} {W:World} (hW:W.heap[(E.s 0).b]? = some (.cells (E.s 0).cs (E.s 0).t (E.s 0).fz)) (he:(E.s 0).esz=1) (hl:E.i 1=(E.s 0).len):Sat E (fun _=>⟨(E.s 0).b,0⟩) hR W:=by
 have get:∀ p o,hR.t.get p=some o->p=.h/\o=.row 0 1 (.v 1) (.v 2) []:=by
  intro p o hp
  by_cases h:p=.h
  ·subst h
   have:some (O.row 0 1 (.v 1) (.v 2) [])=some o:=hp
   exact⟨rfl,(Option.some.inj this).symm⟩
  ·have:hR.t.get p=(PT.e:PT O).get p:=PT.get_set_other .h p .e _ (fun e=>h e.symm)
   rw[this,PT.get_e]at hp
   cases hp
 refine⟨fun p o hp=>?_,fun p q o o' hp hq _ _ _=>?_,fun p o hp=>?_⟩
 ·obtain⟨rfl,rfl⟩:=get p o hp
  exact⟨rfl,hW,he,hl,fun h=>absurd rfl h⟩
 ·rw[(get p o hp).1,(get q o' hq).1]
 ·obtain⟨rfl,rfl⟩:=get p o hp
  exact⟨by decide,trivial⟩
theorem zd1 {E:Env} {F:Nat} {l:List V} {h0:H} {fa:Fa} {inner:zR} (hi:zd E Tryz.prog inner) (hfa:FaOk E fa) (hr:zgf cx1 0 inner F l h0 fa Go.Ev.X.endB=0) {ρ:Rho} {W:World} (hl:bdL h0.n.toNat l) (hs:Sat E ρ h0 W) (hlo:h0.lo=h0.n) :
  Calls Tryz.prog F (γL E ρ l).toArray W fun e w'=>e=.returned (.bool true)/\Below W.heap.size W w':=by
 obtain⟨_,v,h',fa',hk,_,hc⟩:=zdL (zfm zjL) 0 hi _ _ _ _ _ hr hfa
 obtain⟨hv,_⟩:=zl (show bc (V.beq v (.b true)) 0 1=0 from hk) (by simp)
 have hv:=V.beq_ok hv
 subst hv
 refine(hc ρ W hl hs).mono ?_
 rintro e w' ⟨ρ',rfl,_,x,_⟩
 exact⟨rfl,x.os,x.tape,x.output,x.size,fun b hb=>x.keep b hb fun p o hp _ h2=>absurd (hs.bd p o hp).1 (by rw[hlo]at h2;omega)⟩
theorem zol {E:Env} {W:World} (h0:W.heap[(E.s 0).b]? = some (.cells (E.s 0).cs (E.s 0).t (E.s 0).fz)) (e0:(E.s 0).esz=1) (l0:E.i 1=(E.s 0).len)
  (h1:W.heap[(E.s 1).b]? = some (.cells (E.s 1).cs (E.s 1).t (E.s 1).fz)) (e1:(E.s 1).esz=1) (l1:E.i 8=(E.s 1).len):Sat E (fun p=>match p with | .h=>⟨(E.s 0).b,0⟩ | _=>⟨(E.s 1).b,0⟩) hR2 W:=by
 have get:∀ p o,hR2.t.get p=some o->(p=.h/\o=.row 0 1 (.v 1) (.v 2) [])\/(p=.o .h/\o=.row 1 1 (.v 8) (.v 2) []):=by
  intro p o hp
  by_cases h:p=.o .h
  ·subst h
   have:some (O.row 1 1 (.v 8) (.v 2) [])=some o:=hp
   exact .inr ⟨rfl,(Option.some.inj this).symm⟩
  ·have e:hR2.t.get p=((PT.e:PT O).set .h (.row 0 1 (.v 1) (.v 2) [])).get p:=PT.get_set_other (.o .h) p ((PT.e:PT O).set .h (.row 0 1 (.v 1) (.v 2) [])) (.row 1 1 (.v 8) (.v 2) []) (fun e=>h e.symm)
   rw[e]at hp
   by_cases h:p=.h
   ·subst h
    have:some (O.row 0 1 (.v 1) (.v 2) [])=some o:=hp
    exact .inl ⟨rfl,(Option.some.inj this).symm⟩
   ·have:((PT.e:PT O).set .h (.row 0 1 (.v 1) (.v 2) [])).get p=(PT.e:PT O).get p:=PT.get_set_other .h p .e _ (fun e=>h e.symm)
    rw[this,PT.get_e]at hp
    cases hp
 refine⟨fun p o hp=>?_,fun p q o o' hp hq hm _ _=>?_,fun p o hp=>?_⟩
 ·rcases get p o hp with ⟨rfl,rfl⟩ | ⟨rfl,rfl⟩
  ·exact⟨rfl,h0,e0,l0,fun h=>absurd rfl h⟩
  ·exact⟨rfl,h1,e1,l1,fun h=>absurd rfl h⟩
 ·rcases get p o hp with ⟨_,rfl⟩ | ⟨_,rfl⟩ <;> cases hm
 ·rcases get p o hp with ⟨rfl,rfl⟩ | ⟨rfl,rfl⟩ <;> exact⟨by decide,trivial⟩
def envN:Env:=⟨fun _=>0,fun _=>false,fun _=>⟨0,0,0,0,0,0,0,#[],(0,0)⟩⟩
def env1 (b off len cap:Nat) (cs:Array Value) (t:TypeId) (fz:Nat × Nat):Env:=⟨fun _=>len,fun _=>false,fun _=>⟨b,off,len,cap,1,0,t,cs,fz⟩⟩
def env2 (b off len cap:Nat) (cs:Array Value) (t:TypeId) (fz:Nat × Nat) (b' off' len' cap':Nat) (cs':Array Value) (t':TypeId) (fz':Nat × Nat):Env:=
 ⟨fun i=>if i=8 then len' else len,fun _=>false,fun q=>if q=0 then ⟨b,off,len,cap,1,0,t,cs,fz⟩ else ⟨b',off',len',cap',1,0,t',cs',fz'⟩⟩
def Lst (W:World) (Q:Value->Prop) (v:Value):Prop:=v=.slice none 0 0\/∃ b off len cap cs t fz,v=.slice (some ⟨b,off,none⟩) len cap/\W.heap[b]? = some (.cells cs t fz)/\∀ i,i<len->∃ x,cs[off+i]? = some x/\Q x
def QW (v:Value):Prop:=∃ n,v=.int .u64 n/\0<=n/\n<=18446744073709551615
def QB (v:Value):Prop:=∃ b,v=.bool b
theorem zjr {α:Type} [Inhabited α] {n:Nat} {R:Nat->α->Prop} (h:∀ i,i<n->∃ x,R i x):∃ D:Nat->α,∀ i,i<n->R i (D i):=by
 refine⟨fun i=>if hi:i<n then Classical.choose (h i hi) else default,fun i hi=>?_⟩
 show R i (dite _ _ _)
 rw[dif_pos hi]
 exact Classical.choose_spec (h i hi)
theorem zlL {r:Row} (h:∀ i,i<r.len->∃ x,r.cs[r.off+i]? = some x/\QW x):∃ D,zhb r D:=by
 obtain⟨D,hD⟩:=zjr (α:=Int) (R:=fun i n=>r.cs[r.off+i]? = some (.int .u64 n)/\0<=n/\n<=18446744073709551615) (n:=r.len) (fun i hi=>by
  obtain⟨x,h1,n,rfl,h2⟩:=h i hi
  exact⟨n,h1,h2⟩)
 exact⟨D,hD⟩
theorem rowB_of {r:Row} (h:∀ i,i<r.len->∃ x,r.cs[r.off+i]? = some x/\QB x):∃ D,RowB r D:=by
 obtain⟨D,hD⟩:=zjr (α:=Bool) (R:=fun i b=>r.cs[r.off+i]? = some (.bool b)) (n:=r.len) (fun i hi=>by
  obtain⟨x,h1,b,rfl⟩:=h i hi
  exact⟨b,h1⟩)
 exact⟨D,hD⟩
theorem hn1 {E:Env} {ρ:Rho} {W:World} (hs:Sat E ρ hR W):∀ (p:Ev.P) (o:O),hR.t.get p=some o->o.live=true->hR.lo.toNat<=p.toNat->W.heap.size<=(ρ p).b:=by
 intro p o hp _ h2
 have:=(hs.bd p o hp).1
 have e1:hR.n.toNat=2:=rfl
 have e2:hR.lo.toNat=2:=rfl
 omega
theorem hn2 {E:Env} {ρ:Rho} {W:World} (hs:Sat E ρ hR2 W):∀ (p:Ev.P) (o:O),hR2.t.get p=some o->o.live=true->hR2.lo.toNat<=p.toNat->W.heap.size<=(ρ p).b:=by
 intro p o hp _ h2
 have:=(hs.bd p o hp).1
 have e1:hR2.n.toNat=3:=rfl
 have e2:hR2.lo.toNat=3:=rfl
 omega
theorem cA {E:Env}:zd E Tryz.prog zd8:=zfp (zfm zjL) (zbU zjL)
theorem zqK {W:World} {v0 v1:Value} (L0:Lst W QW v0) (L1:Lst W QB v1) :
  Calls Tryz.prog 4 #[v0,v1] W fun e w'=>e=.returned (.bool true)/\Below W.heap.size W w':=by
 rcases L0 with rfl | ⟨b,off,len,cap,cs,t,fz,rfl,hb,hc⟩ <;> rcases L1 with rfl | ⟨b',off',len',cap',cs',t',fz',rfl,hb',hc'⟩
 ·exact zd1 (E:=envN) (ρ:=fun _=>⟨0,0⟩) cA FaOk.nil r_nn (W:=W) ⟨trivial,trivial,trivial⟩ (sat_nil _ W) rfl
 ·exact zd1 (E:=env1 b' off' len' cap' cs' t' fz') (ρ:=fun _=>⟨b',0⟩) cA FaOk.nil r_nl (W:=W) ⟨trivial,(by show (1:Nat)<2;decide),trivial⟩ (zlB hb' rfl rfl) rfl
 ·have hs:=zlB (E:=env1 b off len cap cs t fz) (W:=W) hb rfl rfl
  exact one_any (E:=env1 b off len cap cs t fz) (fun E=>zjL) rfl (zlL hc) hs (hn1 hs)
 ·have hs:=zol (E:=env2 b off len cap cs t fz b' off' len' cap' cs' t' fz') (W:=W) hb rfl rfl hb' rfl rfl
  exact two_any (E:=env2 b off len cap cs t fz b' off' len' cap' cs' t' fz') (fun E=>zjL) rfl rfl (zlL hc) (rowB_of hc') hs (hn2 hs)
theorem zfD {H:Type} {enc:TypeId × Value->H} {P:Program} (hl:laidOutB P=true) {W W':World} (hb:Below W.heap.size W W') :
  ∀ (ts:List TypeId) (vs:List Value) (ds:List (DataW H)) (ps:List MemPlace),(∀ t∈ts,P.readableRec t=true/\t<P.types.size) ->
  DataW.TrodAll enc P W 0 (fun _=>true) true ts vs ds ps->(∀ x∈ps,x.block<W.heap.size)->DataW.TrodAll enc P W' 0 (fun b=>decide (b<W.heap.size)) true ts vs ds ps:=by
 intro ts
 induction ts with
 | nil=>
  intro vs ds ps _ h _
  obtain⟨rfl,rfl,rfl⟩:=trodAll_nil h
  exact trodAll_mk0
 | cons t ts ih=>
  intro vs ds ps hr h hlt
  obtain⟨v0,vs0,d0,ds0,p0,q0,rfl,rfl,rfl,h0,r0⟩:=trodAll_cons h
  have h1:=hr t (by simp)
  exact trodAll_cons_mk (Below.trod hl h1.1 h1.2 h0 hb (fun x hx=>hlt x (by simp[hx]))) (ih _ _ _ (fun t' ht'=>hr t' (by simp[ht'])) r0 (fun x hx=>hlt x (by simp[hx])))
theorem zpL {H:Type} {enc:TypeId × Value->H} {P:Program} {f:Func} {s:ChangeSpec} {W W':World} {args:Array Value} {ds gs:List (DataW H)} {before:List MemPlace} {tb:TypeId}
  (hl:laidOutB P=true) (hr:∀ t∈f.params.toList,P.readableRec t=true/\t<P.types.size) (hvars:s.vars=[]) (hres:f.resultTypes=#[tb]) (htb:P.underlying tb=some .bool)
  (hW:DataW.Whole enc P f.params.toList s.vars false W args.toList ds gs before) (hb:Below W.heap.size W W')
  (hfn:s.fn H (ds ++ gs)={ results:=[.lit (.bool true)],args:=ds }) :
  s.post enc P f false true false false W args (.bool true) W':=by
 have hW0:=hW
 obtain⟨p,q,hA,hV,hpq,hfz,hnd⟩:=hW
 refine⟨ds,gs,before,[],p,[],hW0,?_,?_,?_,hb.frame _,fun h=>by cases h⟩
 ·rw[hfn,hres]
  exact trodAll_cons_mk (shut_bool htb true) trodAll_mk0
 ·rw[hfn]
  refine zfD hl hb _ _ _ _ hr hA (fun x hx=>?_)
  exact hW0.lt x (by rw[hpq];simp[hx])
 ·rw[hvars,hfn]
  rfl
theorem own:ownKnob Tryz.prog.godebug=none:=by kernel_rfl
theorem laidOut:laidOutB Tryz.prog=true:=by kernel_rfl
set_option maxRecDepth 100000 in
theorem contract (H:Type) (enc:TypeId × Value->H) (W:World) (base:Nat) (args:Array Value) (ds gs:List (DataW H)) (before:List MemPlace)
  (hval0:∀ (j:Nat) t v,Tryz.f4.params[j]? = some t->args[j]? = some v->Value.okWide Tryz.prog W .any base t v)
  (hW:DataW.Whole enc Tryz.prog Tryz.f4.params.toList Rows.topWordsSpec.vars false W args.toList ds gs before) (hL:laidMetH Tryz.prog Rows.topWordsRow.laid W) :
  Calls Tryz.prog 4 args W fun e W'=>∃ v,e=.returned v/\Rows.topWordsSpec.post enc Tryz.prog Tryz.f4 false true false false W args v W':=by
 have hval:=hval0
 have hW':=hW
 obtain⟨p,q,hA0,hV,rfl,hfz,hnd⟩:=hW
 have hA:DataW.TrodAll enc Tryz.prog W 0 (fun _=>true) true Tryz.f4.params.toList args.toList ds p:=hA0
 rw[Tryz.params4]at hA hval
 obtain⟨v0,vs0,d0,ds0,p0,q0,hargs,rfl,rfl,h0,r0⟩:=trodAll_cons hA
 obtain⟨v1,vs1,d1,ds1,p1,q1,rfl,rfl,rfl,h1,r1⟩:=trodAll_cons r0
 obtain⟨rfl,rfl,rfl⟩:=trodAll_nil r1
 obtain rfl:args=#[v0,v1]:=by cases args;simp_all
 obtain⟨rfl,rfl⟩:=trodVars_none hV
 have L0:Lst W QW v0:=by
  have hv:=hval 0 33 _ rfl rfl
  obtain⟨a0,len0,cap0,rfl⟩:=okWide_slice Tryz.underlying33 hv
  obtain⟨fuel,hf⟩:=h0
  have hc1:Tryz.prog.cellsOf 41=1:=by kernel_rfl
  rcases open_ints Tryz.underlying33 Tryz.underlying41 hc1 hf with ⟨he,_⟩ | ⟨ad,len,cap,zs,he,_,hlc,_,hzl,_,hcell,hwf⟩
  ·simp only[Value.cells]at he
   injection he with he _
   injection he with e1 e2 e3
   subst e1;subst e2;subst e3
   exact .inl rfl
  ·simp only[Value.cells]at he
   injection he with he _
   injection he with e1 e2 e3
   subst e1;subst e2;subst e3
   have hh:W.has Tryz.prog .any base ad 41 cap0:=by
    unfold Value.okWide at hv
    rw[Tryz.underlying33]at hv
    simp only[Cell.okWide]at hv
    rw[Tryz.underlying33]at hv
    simp only[Cell.ok]at hv
    rw[Tryz.underlying33]at hv
    exact hv.2.2
   obtain⟨b,off,cs,t,fz,rfl,hb⟩:=zdc hh
   refine .inr ⟨b,off,len0,cap0,cs,t,fz,rfl,hb,fun i hi=>?_⟩
   have hi':i<zs.length:=by rw[hzl];simp;omega
   have:=hcell i hi'
   rw[z9]at this
   refine⟨_,by simpa [World.cell?,hb] using this,_,rfl,?_⟩
   have hm:zs.getD i 0∈zs:=by
    rw[List.getD_eq_getElem?_getD,List.getElem?_eq_getElem hi']
    exact List.getElem_mem _
   have:=hwf _ hm
   simp[Lit.wf,IntKind.min,IntKind.max,IntKind.signed,IntKind.bits]at this ⊢
   omega
 have L1:Lst W QB v1:=by
  have hv:=hval 1 51 _ rfl rfl
  obtain⟨a0,len0,cap0,rfl⟩:=okWide_slice Tryz.underlying51 hv
  obtain⟨fuel,hf⟩:=h1
  have hc1:Tryz.prog.cellsOf 4=1:=by kernel_rfl
  rcases Go.Deep.open_bools Tryz.underlying51 Tryz.underlying4 hc1 hf with ⟨he,_⟩ | ⟨ad,len,cap,Bf,he,_,hlc,_,_,hcell⟩
  ·simp only[Value.cells]at he
   injection he with he _
   injection he with e1 e2 e3
   subst e1;subst e2;subst e3
   exact .inl rfl
  ·simp only[Value.cells]at he
   injection he with he _
   injection he with e1 e2 e3
   subst e1;subst e2;subst e3
   have hh:W.has Tryz.prog .any base ad 4 cap0:=by
    unfold Value.okWide at hv
    rw[Tryz.underlying51]at hv
    simp only[Cell.okWide]at hv
    rw[Tryz.underlying51]at hv
    simp only[Cell.ok]at hv
    rw[Tryz.underlying51]at hv
    exact hv.2.2
   obtain⟨b,off,cs,t,fz,rfl,hb⟩:=zdc hh
   refine .inr ⟨b,off,len0,cap0,cs,t,fz,rfl,hb,fun i hi=>?_⟩
   have:=hcell i (by omega)
   rw[z9]at this
   exact⟨_,by simpa [World.cell?,hb] using this,_,rfl⟩
 have hrun:Calls Tryz.prog 4 #[v0,v1] W fun e w'=>e=.returned (.bool true)/\Below W.heap.size W w':=zqK L0 L1
 refine hrun.mono fun e W' ⟨he,hk⟩=>?_
 subst he
 refine⟨_,rfl,zpL laidOut ?_ rfl rfl Tryz.underlying4 hW' hk rfl⟩
 rw[Tryz.params4]
 intro t ht
 simp only[List.mem_cons,List.not_mem_nil,or_false]at ht
 rcases ht with rfl | rfl
 all_goals exact⟨by kernel_rfl,of_decide_eq_true (by kernel_rfl)⟩
end Go.Proofs.YtcohamkngfehlaaGreatDoor
end
