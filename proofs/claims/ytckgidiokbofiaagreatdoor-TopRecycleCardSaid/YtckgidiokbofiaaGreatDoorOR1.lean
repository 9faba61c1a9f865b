import Derived.Test.YtckgidiokbofiaaGreatDoorRows
import Derived.Test.YtckgidiokbofiaaGreatDoorCards
import Derived.Test.YtckgidiokbofiaaGreatDoorTie
import Derived.Test.YtckgidiokbofiaaGreatDoorLen
import Derived.Test.YtckgidiokbofiaaGreatDoorRA
import Derived.Test.YtckgidiokbofiaaGreatDoorHF
import Derived.Test.YtckgidiokbofiaaGreatDoorXAny
import Derived.Test.YtckgidiokbofiaaGreatDoorXSame
import Derived.ProofKit
import Derived.OpenShut
import Derived.ChangeSlices
import Derived.Deep.DeepHandedRow
import Derived.Lib.LaidTab
set_option linter.unusedSimpArgs false
set_option linter.unusedVariables false
noncomputable section
namespace Go.Proofs.YtckgidiokbofiaaGreatDoor
open Go Go.Ev Go.Ev.X Go.ChangeShapes Go.WideShapes Go.ChangeAt Go.RowKit
theorem lenOk {E:Env}:jx E:=fun E' _=>⟨zvK Tryz.call197 (fun x w h0 h1=>Tryz.bits_Len64 x w h0 h1),any_ok Tryz.call238 zw0,sam_ok Tryz.call17 zq0⟩
theorem sat_nil {E:Env} (ρ:Rho) (w:World):Sat E ρ ⟨.h,.h,.e⟩ w:=
 ⟨fun p o hp=>absurd (show (none:Option O)=some o from (PT.get_e p).symm.trans hp) (by simp),fun p q o o' hp=>absurd (show (none:Option O)=some o from (PT.get_e p).symm.trans hp) (by simp),
  fun p o hp=>absurd (show (none:Option O)=some o from (PT.get_e p).symm.trans hp) (by simp)⟩
def envR (a0 a1 a2:Int):Env:=⟨fun i=>bc (Nat.beq i 0) a0 (bc (Nat.beq i 1) a1 (bc (Nat.beq i 3) a2 (za8 a2 4))),fun _=>false,fun _=>⟨0,0,0,0,0,0,0,#[],(0,0)⟩⟩
theorem znr (W:World) (a0 a1 a2:Int) (b0:-9223372036854775808<=a0/\a0<=9223372036854775807) (b1:-9223372036854775808<=a1/\a1<=9223372036854775807) (b2:-9223372036854775808<=a2/\a2<=9223372036854775807) :
  Calls Tryz.prog 4 #[.int .i64 a0,.int .i64 a1,.int .i64 a2] W fun e w'=>e=.returned (.bool true)/\Below W.heap.size W w':=by
 obtain⟨p1,p2⟩:=zfO (c:=a0) (n:=16) (by omega)
 obtain⟨x,hx⟩:=Int.eq_ofNat_of_zero_le p1
 obtain⟨q1,q2⟩:=zfO (c:=a1) (n:=7) (by omega)
 obtain⟨y,hy⟩:=Int.eq_ofNat_of_zero_le q1
 exact znq (E:=envR a0 a1 a2) (fun E=>lenOk) (x:=x) (y:=y) (by omega) (by omega) b0 b1 b2 hx hy rfl (ρ:=fun _=>⟨0,0⟩) (w:=W) (sat_nil _ W)
theorem zgm {H:Type} {enc:TypeId × Value->H} {P:Program} (hl:laidOutB P=true) {W W':World} (hb:Below W.heap.size W W') :
  ∀ (ts:List TypeId) (vs:List Value) (ds:List (DataW H)) (ps:List MemPlace),(∀ t∈ts,P.readableRec t=true/\t<P.types.size) ->
  DataW.TrodAll enc P W 0 (fun _=>true) true ts vs ds ps->(∀ x∈ps,x.block<W.heap.size)->DataW.TrodAll enc P W' 0 (fun b=>decide (b<W.heap.size)) true ts vs ds ps:=by
 intro ts
 induction ts with
 | nil=>
  intro vs ds ps _ h _
  obtain⟨rfl,rfl,rfl⟩:=trodAll_nil h
  exact trodAll_mk0
 | cons t ts ih=>
  intro vs ds ps hr h hlt
  obtain⟨v0,vs0,d0,ds0,p0,q0,rfl,rfl,rfl,h0,r0⟩:=trodAll_cons h
  have h1:=hr t (by simp)
  exact trodAll_cons_mk (Below.trod hl h1.1 h1.2 h0 hb (fun x hx=>hlt x (by simp[hx]))) (ih _ _ _ (fun t' ht'=>hr t' (by simp[ht'])) r0 (fun x hx=>hlt x (by simp[hx])))
theorem zvL {H:Type} {enc:TypeId × Value->H} {P:Program} {f:Func} {s:ChangeSpec} {W W':World} {args:Array Value} {ds gs:List (DataW H)} {before:List MemPlace} {tb:TypeId}
  (hl:laidOutB P=true) (hr:∀ t∈f.params.toList,P.readableRec t=true/\t<P.types.size) (hvars:s.vars=[]) (hres:f.resultTypes=#[tb]) (htb:P.underlying tb=some .bool)
  (hW:DataW.Whole enc P f.params.toList s.vars false W args.toList ds gs before) (hb:Below W.heap.size W W')
  (hfn:s.fn H (ds ++ gs)={ results:=[.lit (.bool true)],args:=ds }) :
  s.post enc P f false true false false W args (.bool true) W':=by
 have hW0:=hW
 obtain⟨p,q,hA,hV,hpq,hfz,hnd⟩:=hW
 refine⟨ds,gs,before,[],p,[],hW0,?_,?_,?_,hb.frame _,fun h=>by cases h⟩
 ·rw[hfn,hres]
  exact trodAll_cons_mk (shut_bool htb true) trodAll_mk0
 ·rw[hfn]
  refine zgm hl hb _ _ _ _ hr hA (fun x hx=>?_)
  exact hW0.lt x (by rw[hpq];simp[hx])
 ·rw[hvars,hfn]
  rfl
theorem own:ownKnob Tryz.prog.godebug=none:=by kernel_rfl
theorem laidOut:laidOutB Tryz.prog=true:=by kernel_rfl
set_option maxRecDepth 100000 in
theorem contract (H:Type) (enc:TypeId × Value->H) (W:World) (base:Nat) (args:Array Value) (ds gs:List (DataW H)) (before:List MemPlace)
  (hval0:∀ (j:Nat) t v,Tryz.f4.params[j]? = some t->args[j]? = some v->Value.okWide Tryz.prog W .any base t v)
  (hW:DataW.Whole enc Tryz.prog Tryz.f4.params.toList Rows.topRecycleSpec.vars false W args.toList ds gs before) (hL:laidMetH Tryz.prog Rows.topRecycleRow.laid W) :
  Calls Tryz.prog 4 args W fun e W'=>∃ v,e=.returned v/\Rows.topRecycleSpec.post enc Tryz.prog Tryz.f4 false true false false W args v W':=by
 have hval:=hval0
 have hW':=hW
 obtain⟨p,q,hA0,hV,rfl,hfz,hnd⟩:=hW
 have hA:DataW.TrodAll enc Tryz.prog W 0 (fun _=>true) true Tryz.f4.params.toList args.toList ds p:=hA0
 rw[Tryz.params4]at hA hval
 obtain⟨v0,vs0,d0,ds0,p0,q0,hargs,rfl,rfl,h0,r0⟩:=trodAll_cons hA
 obtain⟨v1,vs1,d1,ds1,p1,q1,rfl,rfl,rfl,h1,r1⟩:=trodAll_cons r0
 obtain⟨v2,vs2,d2,ds2,p2,q2,rfl,rfl,rfl,h2,r2⟩:=trodAll_cons r1
 obtain⟨rfl,rfl,rfl⟩:=trodAll_nil r2
 obtain rfl:args=#[v0,v1,v2]:=by cases args;simp_all
 obtain⟨a0,rfl,rfl,rfl,w0⟩:=open_int Tryz.underlying3 (hval 0 3 v0 rfl rfl) h0
 have b0:-9223372036854775808<=a0/\a0<=9223372036854775807:=by simp[Lit.wf,IntKind.min,IntKind.max,IntKind.signed,IntKind.bits]at w0;omega
 obtain⟨a1,rfl,rfl,rfl,w1⟩:=open_int Tryz.underlying3 (hval 1 3 v1 rfl rfl) h1
 have b1:-9223372036854775808<=a1/\a1<=9223372036854775807:=by simp[Lit.wf,IntKind.min,IntKind.max,IntKind.signed,IntKind.bits]at w1;omega
 obtain⟨a2,rfl,rfl,rfl,w2⟩:=open_int Tryz.underlying3 (hval 2 3 v2 rfl rfl) h2
 have b2:-9223372036854775808<=a2/\a2<=9223372036854775807:=by simp[Lit.wf,IntKind.min,IntKind.max,IntKind.signed,IntKind.bits]at w2;omega
 obtain⟨rfl,rfl⟩:=trodVars_none hV
 refine(znr W a0 a1 a2 b0 b1 b2).mono fun e W' ⟨he,hk⟩=>?_
 subst he
 refine⟨_,rfl,zvL laidOut ?_ rfl rfl Tryz.underlying4 hW' hk rfl⟩
 rw[Tryz.params4]
 intro t ht
 simp only[List.mem_cons,List.not_mem_nil,or_false]at ht
 rcases ht with rfl | rfl | rfl
 all_goals exact⟨by kernel_rfl,of_decide_eq_true (by kernel_rfl)⟩
end Go.Proofs.YtckgidiokbofiaaGreatDoor
end
