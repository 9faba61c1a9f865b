/-
 PROVED: citadellaw16.EpBadged returns true at every input; its arguments read as before. Condition: none.
-/
import Derived.Test.YtcinokgfjdifbaaGreatRows
import Derived.Test.YtcinokgfjdifbaaGreatBE
import Derived.Deep.Slices
import Derived.ChangeArms
import Derived.ProofKit
import Derived.OpenShut
import Derived.Deep.DeepHandedRow
set_option linter.unusedSimpArgs false
set_option linter.unusedVariables false
noncomputable section
namespace Go.Proofs.YtcinokgfjdifbaaGreat
open Go Go.Ev Go.Ev.X Go.ChangeShapes Go.WideShapes Go.ChangeAt Go.RowKit
theorem zia {H:Type} {enc:TypeId × Value->H} {P:Program} (hl:laidOutB P=true) {W W':World} (hb:Below W.heap.size W W') :
  ∀ (ts:List TypeId) (vs:List Value) (ds:List (DataW H)) (ps:List MemPlace),(∀ t∈ts,P.readableRec t=true/\t<P.types.size) ->
  DataW.TrodAll enc P W 0 (fun _=>true) true ts vs ds ps->(∀ x∈ps,x.block<W.heap.size)->DataW.TrodAll enc P W' 0 (fun b=>decide (b<W.heap.size)) true ts vs ds ps:=by
 intro ts
 induction ts with
 | nil=>
  intro vs ds ps _ h _
  obtain⟨rfl,rfl,rfl⟩:=trodAll_nil h
  exact trodAll_mk0
 | cons t ts ih=>
  intro vs ds ps hr h hlt
  obtain⟨v0,vs0,d0,ds0,p0,q0,rfl,rfl,rfl,h0,r0⟩:=trodAll_cons h
  have h1:=hr t (by simp)
  exact trodAll_cons_mk (Below.trod hl h1.1 h1.2 h0 hb (fun x hx=>hlt x (by simp[hx]))) (ih _ _ _ (fun t' ht'=>hr t' (by simp[ht'])) r0 (fun x hx=>hlt x (by simp[hx])))
theorem ztn {H:Type} {enc:TypeId × Value->H} {P:Program} {f:Func} {s:ChangeSpec} {W W':World} {args:Array Value} {ds gs:List (DataW H)} {before:List MemPlace} {tb:TypeId}
  (hl:laidOutB P=true) (hr:∀ t∈f.params.toList,P.readableRec t=true/\t<P.types.size) (hvars:s.vars=[]) (hres:f.resultTypes=#[tb]) (htb:P.underlying tb=some .bool)
  (hW:DataW.Whole enc P f.params.toList s.vars false W args.toList ds gs before) (hb:Below W.heap.size W W')
  (hfn:s.fn H (ds ++ gs)={ results:=[.lit (.bool true)],args:=ds }) :
  s.post enc P f false true false false W args (.bool true) W':=by
 have hW0:=hW
 obtain⟨p,q,hA,hV,hpq,hfz,hnd⟩:=hW
 refine⟨ds,gs,before,[],p,[],hW0,?_,?_,?_,hb.frame _,fun h=>by cases h⟩
 ·rw[hfn,hres]
  exact trodAll_cons_mk (shut_bool htb true) trodAll_mk0
 ·rw[hfn]
  refine zia hl hb _ _ _ _ hr hA (fun x hx=>?_)
  exact hW0.lt x (by rw[hpq];simp[hx])
 ·rw[hvars,hfn]
  rfl
theorem zk6 {P:Program} {w:World} {r:Reach} {base:Nat} {a:Addr} {e:TypeId} {n:Nat} (h:w.has P r base a e n):∃ b off cs t fz,a=⟨b,off,none⟩/\w.heap[b]? = some (.cells cs t fz):=by
 obtain⟨_,h2,row,cells,h3,_⟩:=h
 obtain⟨b,off,sp⟩:=a
 have h2:sp=none:=h2
 subst h2
 unfold World.shape? at h3
 split at h3
 ·rename_i c el fr hh
  exact⟨b,off,c,el,fr,rfl,hh⟩
 ·cases h3
instance:Inhabited Go.Ev.X.Act:=⟨⟨0,0,0,0,false,0⟩⟩
set_option maxRecDepth 100000 in
theorem zqj {H:Type} {enc:TypeId × Value->H} {w:World} {base:Nat} {spare:Nat->Bool} {held:Bool} {fuel:Nat} {cs:List Value} {x:DataW H × List MemPlace} (h:DataW.trod enc Tryz.prog w base spare held fuel 22 cs=some x) :
  cs=[.slice none 0 0]\/∃ (a:Addr) (len cap:Nat) (D:Nat->Go.Ev.X.Act),cs=[.slice (some a) len cap]/\∀ i,i<len->w.cell? (a.add (i*6))=some (.int .i64 (D i).d)/\w.cell? (a.add (i*6+1))=some (.int .i64 (D i).a)/\w.cell? (a.add (i*6+2))=some (.int .i64 (D i).e)/\w.cell? (a.add (i*6+3))=some (.int .i64 (D i).b)/\w.cell? (a.add (i*6+4))=some (.bool (D i).r)/\w.cell? (a.add (i*6+5))=some (.int .i64 (D i).k) /\
   (Lit.int .i64 (D i).d).wf=true/\(Lit.int .i64 (D i).a).wf=true/\(Lit.int .i64 (D i).e).wf=true/\(Lit.int .i64 (D i).b).wf=true/\(Lit.int .i64 (D i).k).wf=true:=by
 have ce:Tryz.prog.cellsOf 28=6:=by kernel_rfl
 have c3:Tryz.prog.cellsOf 3=1:=by kernel_rfl
 have c4:Tryz.prog.cellsOf 4=1:=by kernel_rfl
 rcases Go.Deep.open_slice Tryz.underlying22 h with ⟨h0,_⟩ | ⟨a,len,cap,m,n,D,Pl,rfl,hb,hl,hm,hmm,rfl,hx⟩
 ·exact .inl h0
 right
 have hlm:len<=m:=by rw[hmm];split <;> omega
 have each:∀ i,i<len->∃ q:Go.Ev.X.Act,w.cell? (a.add (i*6))=some (.int .i64 q.d)/\w.cell? (a.add (i*6+1))=some (.int .i64 q.a)/\w.cell? (a.add (i*6+2))=some (.int .i64 q.e)/\w.cell? (a.add (i*6+3))=some (.int .i64 q.b)/\w.cell? (a.add (i*6+4))=some (.bool q.r)/\w.cell? (a.add (i*6+5))=some (.int .i64 q.k) /\
   (Lit.int .i64 q.d).wf=true/\(Lit.int .i64 q.a).wf=true/\(Lit.int .i64 q.e).wf=true/\(Lit.int .i64 q.b).wf=true/\(Lit.int .i64 q.k).wf=true:=by
  intro i hi
  obtain⟨cs',h1,h2⟩:=hx i (by omega)
  rw[ce]at h1
  obtain⟨_,hlen,hcell⟩:=World.cells?_some h1
  obtain⟨xs,k,hk,hxy,_,hxl,hf⟩:=DataW.trod_struct Tryz.underlying28 h2
  match xs,hxl,cs',hlen with
  | [y0,y1,y2,y3,y4,y5],_,[v0,v1,v2,v3,v4,v5],_=>
   have g0:=hf 0 _ rfl
   have g1:=hf 1 _ rfl
   have g2:=hf 2 _ rfl
   have g3:=hf 3 _ rfl
   have g4:=hf 4 _ rfl
   have g5:=hf 5 _ rfl
   simp[c3,c4]at g0 g1 g2 g3 g4 g5
   obtain⟨n0,e0,_,w0⟩:=DataW.trod_int Tryz.underlying3 g0
   obtain⟨n1,e1,_,w1⟩:=DataW.trod_int Tryz.underlying3 g1
   obtain⟨n2,e2,_,w2⟩:=DataW.trod_int Tryz.underlying3 g2
   obtain⟨n3,e3,_,w3⟩:=DataW.trod_int Tryz.underlying3 g3
   obtain⟨n4,e4,_⟩:=DataW.trod_bool Tryz.underlying4 g4
   obtain⟨n5,e5,_,w5⟩:=DataW.trod_int Tryz.underlying3 g5
   have e0:v0=.int .i64 n0:=by simpa using e0
   have e1:v1=.int .i64 n1:=by simpa using e1
   have e2:v2=.int .i64 n2:=by simpa using e2
   have e3:v3=.int .i64 n3:=by simpa using e3
   have e4:v4=.bool n4:=by simpa using e4
   have e5:v5=.int .i64 n5:=by simpa using e5
   have k0:=hcell 0 (by omega)
   have k1:=hcell 1 (by omega)
   have k2:=hcell 2 (by omega)
   have k3:=hcell 3 (by omega)
   have k4:=hcell 4 (by omega)
   have k5:=hcell 5 (by omega)
   rw[Go.Deep.add_add]at k0 k1 k2 k3 k4 k5
   exact⟨⟨n0,n1,n2,n3,n4,n5⟩,by rw[<- e0];simpa using k0,by rw[<- e1];simpa using k1,by rw[<- e2];simpa using k2,by rw[<- e3];simpa using k3,by rw[<- e4];simpa using k4,by rw[<- e5];simpa using k5,w0,w1,w2,w3,w5⟩
 obtain⟨q,hq⟩:=Go.Deep.choose_lt each
 exact⟨a,len,cap,q,rfl,hq⟩
theorem own:ownKnob Tryz.prog.godebug=none:=by kernel_rfl
theorem laidOut:laidOutB Tryz.prog=true:=by kernel_rfl
set_option maxRecDepth 100000 in
theorem contract (H:Type) (enc:TypeId × Value->H) (W:World) (base:Nat) (args:Array Value) (ds gs:List (DataW H)) (before:List MemPlace)
  (hval0:∀ (j:Nat) t v,Tryz.f4.params[j]? = some t->args[j]? = some v->Value.okWide Tryz.prog W .any base t v)
  (hW:DataW.Whole enc Tryz.prog Tryz.f4.params.toList Rows.epBadgedSpec.vars false W args.toList ds gs before) :
  Calls Tryz.prog 4 args W fun e W'=>∃ v,e=.returned v/\Rows.epBadgedSpec.post enc Tryz.prog Tryz.f4 false true false false W args v W':=by
 have hval:=hval0
 have hW':=hW
 obtain⟨p,q,hA0,hV,rfl,hfz,hnd⟩:=hW
 have hA:DataW.TrodAll enc Tryz.prog W 0 (fun _=>true) true Tryz.f4.params.toList args.toList ds p:=hA0
 rw[Tryz.params4]at hA hval
 obtain⟨v0,vs0,d0,ds0,p0,q0,hargs,rfl,rfl,h0,r0⟩:=trodAll_cons hA
 obtain⟨v1,vs1,d1,ds1,p1,q1,rfl,rfl,rfl,h1,r1⟩:=trodAll_cons r0
 obtain⟨v2,vs2,d2,ds2,p2,q2,rfl,rfl,rfl,h2,r2⟩:=trodAll_cons r1
 obtain⟨rfl,rfl,rfl⟩:=trodAll_nil r2
 obtain rfl:args=#[v0,v1,v2]:=by cases args;simp_all
 obtain⟨a1,rfl,rfl,rfl,w1⟩:=open_int Tryz.underlying3 (hval 1 3 v1 rfl rfl) h1
 have b1:Go.Ev.X.I64 a1:=by unfold Go.Ev.X.I64;simp[Lit.wf,IntKind.min,IntKind.max,IntKind.signed,IntKind.bits]at w1;omega
 obtain⟨a2,rfl,rfl,rfl,w2⟩:=open_int Tryz.underlying3 (hval 2 3 v2 rfl rfl) h2
 have b2:Go.Ev.X.I64 a2:=by unfold Go.Ev.X.I64;simp[Lit.wf,IntKind.min,IntKind.max,IntKind.signed,IntKind.bits]at w2;omega
 obtain⟨rfl,rfl⟩:=trodVars_none hV
 have zr:Calls Tryz.prog 4 #[v0,.int .i64 a1,.int .i64 a2] W fun e w'=>e=.returned (.bool true)/\Below W.heap.size W w':=by
  have hv:=hval 0 22 _ rfl rfl
  obtain⟨a0,len0,cap0,rfl⟩:=okWide_slice Tryz.underlying22 hv
  obtain⟨fuel,hf⟩:=h0
  rcases zqj hf with he | ⟨ad,len,cap,D,he,hcell⟩
  ·simp only[Value.cells]at he
   injection he with he _
   injection he with e1 e2 e3
   subst e1;subst e2;subst e3
   exact Go.Ev.X.badged_nil b1 b2 W
  ·simp only[Value.cells]at he
   injection he with he _
   injection he with e1 e2 e3
   subst e1;subst e2;subst e3
   have hh:W.has Tryz.prog .any base ad 28 cap0:=by
    unfold Value.okWide at hv
    rw[Tryz.underlying22]at hv
    simp only[Cell.okWide]at hv
    rw[Tryz.underlying22]at hv
    simp only[Cell.ok]at hv
    rw[Tryz.underlying22]at hv
    exact hv.2.2
   obtain⟨b,off,cs,t,fz,rfl,hb⟩:=zk6 hh
   have rg:∀ {n:Int},(Lit.int .i64 n).wf=true->Go.Ev.X.I64 n:=fun {n} h=>by
    unfold Go.Ev.X.I64
    simp[Lit.wf,IntKind.min,IntKind.max,IntKind.signed,IntKind.bits]at h;omega
   have hD:Go.Ev.X.RowA ⟨b,off,len0,cap0,6,0,t,cs,fz⟩ D:=⟨rfl,fun i hi=>by
    obtain⟨c0,c1,c2,c3,c4,c5,w0,w1,w2,w3,w5⟩:=hcell i hi
    rw[yO]at c0 c1 c2 c3 c4 c5
    refine⟨?_,?_,?_,?_,?_,?_,⟨rg w0,rg w1,rg w2,rg w3,rg w5⟩⟩
    ·simpa [World.cell?,hb] using c0
    ·simpa [World.cell?,hb,Nat.add_assoc] using c1
    ·simpa [World.cell?,hb,Nat.add_assoc] using c2
    ·simpa [World.cell?,hb,Nat.add_assoc] using c3
    ·simpa [World.cell?,hb,Nat.add_assoc] using c4
    ·simpa [World.cell?,hb,Nat.add_assoc] using c5⟩
   exact Go.Ev.X.badged_any b1 b2 hD hb
 refine zr.mono fun e W' ⟨he,hk⟩=>?_
 subst he
 refine⟨_,rfl,ztn laidOut ?_ rfl rfl Tryz.underlying4 hW' hk rfl⟩
 rw[Tryz.params4]
 intro t ht
 simp only[List.mem_cons,List.not_mem_nil,or_false]at ht
 rcases ht with rfl | rfl | rfl
 all_goals exact⟨by kernel_rfl,of_decide_eq_true (by kernel_rfl)⟩
set_option maxRecDepth 100000 in
theorem lifted (os:Os) (started:os.Started) (H:Type) (enc:TypeId × Value->H) :
  ReturnsInHanded {} Tryz.checked os 4 .any (Rows.epBadgedSpec.pre6 enc Tryz.prog Tryz.f4 Rows.epBadgedRow.domain false) (Rows.epBadgedSpec.post enc Tryz.prog Tryz.f4 false true false false):=by
 refine returnsInHanded_of_change (C:=Tryz.checked) own started (by kernel_rfl) Tryz.func4
  (ChangeSpec.witness6 (enc:=enc) (C:=Tryz.checked) false ⟨#[],#[.slice none 0 0,.int .i64 0,.int .i64 0],[]⟩ 8 (by kernel_rfl) (by kernel_rfl) (by kernel_rfl) (by kernel_rfl)) ?_
 intro W base args ds gs before hval0 hW hcnd _
 exact contract H enc W base args ds gs before hval0 hW
set_option maxRecDepth 1000000 in
theorem said:Rows.EpBadgedSaid:=
 OpenClaim.holds_of_wide 4 Tryz.f4 rfl rfl rfl rfl rfl rfl rfl ⟨rfl,rfl,rfl,rfl,rfl⟩ rfl rfl rfl rfl rfl (by kernel_rfl) Tryz.func4 (by kernel_rfl)
  (of_decide_eq_true (by kernel_rfl)) (by unfold Func.isWrapper;first | (rw[if_pos (by decide +kernel)];kernel_rfl) | (rw[if_neg (by decide +kernel)];exact⟨rfl,rfl⟩))
  (fun os started H enc _=>lifted os started H enc)
#print axioms said
end Go.Proofs.YtcinokgfjdifbaaGreat
end
