import Derived.Test.YtcohamkngfehlaaGreatDoorRows
import Derived.Test.YtcohamkngfehlaaGreatDoorCards
import Derived.Test.YtcohamkngfehlaaGreatDoorTie
import Derived.Test.YtcohamkngfehlaaGreatDoorLen
import Derived.Test.YtcohamkngfehlaaGreatDoorRA
import Derived.Test.YtcohamkngfehlaaGreatDoorHF
import Derived.Test.YtcohamkngfehlaaGreatDoorXAny
import Derived.ProofKit
import Derived.OpenShut
import Derived.ChangeSlices
import Derived.Deep.DeepHandedRow
import Derived.Lib.LaidTab
set_option linter.unusedSimpArgs false
set_option linter.unusedVariables false
noncomputable section
namespace Go.Proofs.YtcohamkngfehlaaGreatDoor
open Go Go.Ev Go.Ev.X Go.ChangeShapes Go.WideShapes Go.ChangeAt Go.RowKit
theorem lenOk {E:Env}:jr E:=fun E' _=>⟨zqI Tryz.call197 (fun x w h0 h1=>Tryz.bits_Len64 x w h0 h1),any_ok Tryz.call239 zr2⟩
theorem sat_nil {E:Env} (ρ:Rho) (w:World):Sat E ρ ⟨.h,.h,.e⟩ w:=
 ⟨fun p o hp=>absurd (show (none:Option O)=some o from (PT.get_e p).symm.trans hp) (by simp),fun p q o o' hp=>absurd (show (none:Option O)=some o from (PT.get_e p).symm.trans hp) (by simp),
  fun p o hp=>absurd (show (none:Option O)=some o from (PT.get_e p).symm.trans hp) (by simp)⟩
theorem zop {ρ ρ':Rho} {h':H} {w w':World} (x:Ext ρ ⟨.h,.h,.e⟩ w ρ' h' w'):Below w.heap.size w w':=
 ⟨x.os,x.tape,x.output,x.size,fun b hb=>x.keep b hb fun p o hp=>absurd (show (none:Option O)=some o from (PT.get_e p).symm.trans hp) (by simp)⟩
theorem zlW {E:Env} {F:Nat} {l:List V} {fa:Fa} {inner:zr} (hi:ze E Tryz.prog inner) (hfa:FaOk E fa) (hr:za8 cx1 0 inner F l ⟨.h,.h,.e⟩ fa Go.Ev.X.endB=0) (hl:bdL 1 l) (W:World) :
  Calls Tryz.prog F (γL E (fun _=>⟨0,0⟩) l).toArray W fun e w'=>e=.returned (.bool true)/\Below W.heap.size W w':=by
 obtain⟨_,v,h',fa',hk,_,hc⟩:=zcf (zmc lenOk) 0 hi _ _ _ _ _ hr hfa
 obtain⟨hv,_⟩:=zk (show bc (V.beq v (.b true)) 0 1=0 from hk) (by simp)
 have hv:=V.beq_ok hv
 subst hv
 refine(hc (fun _=>⟨0,0⟩) W hl (sat_nil _ W)).mono ?_
 rintro e w' ⟨ρ',rfl,_,x,_⟩
 exact⟨rfl,zop x⟩
theorem cxA (E:Env):CxOk E Tryz.prog (zW Tryz.prog) cx1:=zmc lenOk
theorem clA (E:Env):ze E Tryz.prog zb2:=zrI lenOk
theorem callA' (E:Env):ze E Tryz.prog callA:=zrG (cxA E) (clA E)
theorem bP_ok {E:Env} {n:Nat} (h0:-9223372036854775808<=E.i 0/\E.i 0<=9223372036854775807) (h2:-9223372036854775808<=E.i 2/\E.i 2<=9223372036854775807) (hx:zbH (E.i 0) 9=(n:Nat)) (h1:E.i 1=zbH (E.i 2) 65536):ze E Tryz.prog (bP n):=
 zfR (v:=(.i .i64 (.ofNat n))) Tryz.call10 (fun E' _=>cxA E') (fun E' _=>clA E') pk9_0 pk9_1 h0 trivial (fun ρ=>by simp only[V.γ,hx];rfl)
  (zfR (v:=.si .i64 (.v 1)) Tryz.call10 (fun E' _=>cxA E') (fun E' _=>clA E') zn9 zn8 h2 trivial (fun ρ=>by simp only[V.γ,SE.den,h1]) (callA' E))
theorem zoc (W:World) (a0 a1:Int) (a2:Bool) (b0:-9223372036854775808<=a0/\a0<=9223372036854775807) (b1:-9223372036854775808<=a1/\a1<=9223372036854775807) :
  Calls Tryz.prog 3 #[.int .i64 a0,.int .i64 a1,.bool a2] W fun e w'=>e=.returned (.bool true)/\Below W.heap.size W w':=by
 obtain⟨p1,p2⟩:=zko (c:=a0) (n:=9) (by omega)
 obtain⟨n,hn⟩:=Int.eq_ofNat_of_zero_le p1
 obtain⟨q1,q2⟩:=zko (c:=a1) (n:=65536) (by omega)
 obtain⟨k,hk,hf⟩:=fP_all (E:=envU a0 (zbH a1 65536) a1) (n:=n) (by omega) q1 q2
 have:=zlW (E:=envU a0 (zbH a1 65536) a1) (bP_ok b0 b1 hn rfl) (fa_all hf) (rp n k a2 hk) (l:=argsP a2) ⟨trivial,trivial,trivial,trivial⟩ W
 exact this
theorem zfq {H:Type} {enc:TypeId × Value->H} {P:Program} (hl:laidOutB P=true) {W W':World} (hb:Below W.heap.size W W') :
  ∀ (ts:List TypeId) (vs:List Value) (ds:List (DataW H)) (ps:List MemPlace),(∀ t∈ts,P.readableRec t=true/\t<P.types.size) ->
  DataW.TrodAll enc P W 0 (fun _=>true) true ts vs ds ps->(∀ x∈ps,x.block<W.heap.size)->DataW.TrodAll enc P W' 0 (fun b=>decide (b<W.heap.size)) true ts vs ds ps:=by
 intro ts
 induction ts with
 | nil=>
  intro vs ds ps _ h _
  obtain⟨rfl,rfl,rfl⟩:=trodAll_nil h
  exact trodAll_mk0
 | cons t ts ih=>
  intro vs ds ps hr h hlt
  obtain⟨v0,vs0,d0,ds0,p0,q0,rfl,rfl,rfl,h0,r0⟩:=trodAll_cons h
  have h1:=hr t (by simp)
  exact trodAll_cons_mk (Below.trod hl h1.1 h1.2 h0 hb (fun x hx=>hlt x (by simp[hx]))) (ih _ _ _ (fun t' ht'=>hr t' (by simp[ht'])) r0 (fun x hx=>hlt x (by simp[hx])))
theorem zqJ {H:Type} {enc:TypeId × Value->H} {P:Program} {f:Func} {s:ChangeSpec} {W W':World} {args:Array Value} {ds gs:List (DataW H)} {before:List MemPlace} {tb:TypeId}
  (hl:laidOutB P=true) (hr:∀ t∈f.params.toList,P.readableRec t=true/\t<P.types.size) (hvars:s.vars=[]) (hres:f.resultTypes=#[tb]) (htb:P.underlying tb=some .bool)
  (hW:DataW.Whole enc P f.params.toList s.vars false W args.toList ds gs before) (hb:Below W.heap.size W W')
  (hfn:s.fn H (ds ++ gs)={ results:=[.lit (.bool true)],args:=ds }) :
  s.post enc P f false true false false W args (.bool true) W':=by
 have hW0:=hW
 obtain⟨p,q,hA,hV,hpq,hfz,hnd⟩:=hW
 refine⟨ds,gs,before,[],p,[],hW0,?_,?_,?_,hb.frame _,fun h=>by cases h⟩
 ·rw[hfn,hres]
  exact trodAll_cons_mk (shut_bool htb true) trodAll_mk0
 ·rw[hfn]
  refine zfq hl hb _ _ _ _ hr hA (fun x hx=>?_)
  exact hW0.lt x (by rw[hpq];simp[hx])
 ·rw[hvars,hfn]
  rfl
theorem own:ownKnob Tryz.prog.godebug=none:=by kernel_rfl
theorem laidOut:laidOutB Tryz.prog=true:=by kernel_rfl
set_option maxRecDepth 100000 in
theorem contract (H:Type) (enc:TypeId × Value->H) (W:World) (base:Nat) (args:Array Value) (ds gs:List (DataW H)) (before:List MemPlace)
  (hval0:∀ (j:Nat) t v,Tryz.f3.params[j]? = some t->args[j]? = some v->Value.okWide Tryz.prog W .any base t v)
  (hW:DataW.Whole enc Tryz.prog Tryz.f3.params.toList Rows.topPagesSpec.vars false W args.toList ds gs before) (hL:laidMetH Tryz.prog Rows.topPagesRow.laid W) :
  Calls Tryz.prog 3 args W fun e W'=>∃ v,e=.returned v/\Rows.topPagesSpec.post enc Tryz.prog Tryz.f3 false true false false W args v W':=by
 have hval:=hval0
 have hW':=hW
 obtain⟨p,q,hA0,hV,rfl,hfz,hnd⟩:=hW
 have hA:DataW.TrodAll enc Tryz.prog W 0 (fun _=>true) true Tryz.f3.params.toList args.toList ds p:=hA0
 rw[Tryz.params3]at hA hval
 obtain⟨v0,vs0,d0,ds0,p0,q0,hargs,rfl,rfl,h0,r0⟩:=trodAll_cons hA
 obtain⟨v1,vs1,d1,ds1,p1,q1,rfl,rfl,rfl,h1,r1⟩:=trodAll_cons r0
 obtain⟨v2,vs2,d2,ds2,p2,q2,rfl,rfl,rfl,h2,r2⟩:=trodAll_cons r1
 obtain⟨rfl,rfl,rfl⟩:=trodAll_nil r2
 obtain rfl:args=#[v0,v1,v2]:=by cases args;simp_all
 obtain⟨a0,rfl,rfl,rfl,w0⟩:=open_int Tryz.underlying3 (hval 0 3 v0 rfl rfl) h0
 have b0:-9223372036854775808<=a0/\a0<=9223372036854775807:=by simp[Lit.wf,IntKind.min,IntKind.max,IntKind.signed,IntKind.bits]at w0;omega
 obtain⟨a1,rfl,rfl,rfl,w1⟩:=open_int Tryz.underlying3 (hval 1 3 v1 rfl rfl) h1
 have b1:-9223372036854775808<=a1/\a1<=9223372036854775807:=by simp[Lit.wf,IntKind.min,IntKind.max,IntKind.signed,IntKind.bits]at w1;omega
 obtain⟨a2,rfl,rfl,rfl⟩:=open_bool Tryz.underlying4 (hval 2 4 v2 rfl rfl) h2
 obtain⟨rfl,rfl⟩:=trodVars_none hV
 refine(zoc W a0 a1 a2 b0 b1).mono fun e W' ⟨he,hk⟩=>?_
 subst he
 refine⟨_,rfl,zqJ laidOut ?_ rfl rfl Tryz.underlying4 hW' hk rfl⟩
 rw[Tryz.params3]
 intro t ht
 simp only[List.mem_cons,List.not_mem_nil,or_false]at ht
 rcases ht with rfl | rfl | rfl
 all_goals exact⟨by kernel_rfl,of_decide_eq_true (by kernel_rfl)⟩
end Go.Proofs.YtcohamkngfehlaaGreatDoor
end
