import Derived.Test.YtckgidiokbofiaaGreatDoorRows
import Derived.Test.YtckgidiokbofiaaGreatDoorCards
import Derived.Test.YtckgidiokbofiaaGreatDoorTie
import Derived.Test.YtckgidiokbofiaaGreatDoorMLen
import Derived.Test.YtckgidiokbofiaaGreatDoorMTL
import Derived.Test.YtckgidiokbofiaaGreatDoorMHF
import Derived.Test.YtckgidiokbofiaaGreatDoorMXAny
import Derived.ProofKit
import Derived.OpenShut
import Derived.ChangeSlices
import Derived.Deep.Slices
import Derived.Deep.Grids
import Derived.Deep.DeepHandedRow
import Derived.Lib.LaidTab
set_option linter.unusedSimpArgs false
set_option linter.unusedVariables false
noncomputable section
namespace Go.Proofs.YtckgidiokbofiaaGreatDoor
open Go Go.Ev Go.Ev.X Go.ChangeShapes Go.WideShapes Go.ChangeAt Go.RowKit
theorem zwv {E:Env}:jf E:=fun E' _=>⟨zAq Tryz.call197 (fun x w h0 h1=>Tryz.bits_Len64 x w h0 h1),any_ok Tryz.call238 zBK⟩
theorem zme {P:Program} {w:World} {r:Reach} {base:Nat} {a:Addr} {e:TypeId} {n:Nat} (h:w.has P r base a e n):∃ b off cs t fz,a=⟨b,off,none⟩/\w.heap[b]? = some (.cells cs t fz):=by
 obtain⟨_,h2,row,cells,h3,_⟩:=h
 obtain⟨b,off,sp⟩:=a
 have h2:sp=none:=h2
 subst h2
 unfold World.shape? at h3
 split at h3
 ·rename_i c el fr hh
  exact⟨b,off,c,el,fr,rfl,hh⟩
 ·cases h3
theorem sat_nil {E:Env} (ρ:Rho) (w:World):Sat E ρ ⟨.h,.h,.e⟩ w:=
 ⟨fun p o hp=>absurd (show (none:Option O)=some o from (PT.get_e p).symm.trans hp) (by simp),fun p q o o' hp=>absurd (show (none:Option O)=some o from (PT.get_e p).symm.trans hp) (by simp),
  fun p o hp=>absurd (show (none:Option O)=some o from (PT.get_e p).symm.trans hp) (by simp)⟩
theorem ztV {E:Env} {F:Nat} {l:List V} {h0:H} {fa:Fa} {inner:zy} (hi:zi E Tryz.prog inner) (hfa:FaOk E fa) (hr:zbb cx1 0 inner F l h0 fa Go.Ev.X.endB=0) {ρ:Rho} {W:World} (hl:bdL h0.n.toNat l) (hs:Sat E ρ h0 W) (hlo:h0.lo=h0.n) :
  Calls Tryz.prog F (γL E ρ l).toArray W fun e w'=>e=.returned (.bool true)/\Below W.heap.size W w':=by
 obtain⟨_,v,h',fa',hk,_,hc⟩:=zbz (zcl zwv) 0 hi _ _ _ _ _ hr hfa
 obtain⟨hv,_⟩:=zn (show bc (V.beq v (.b true)) 0 1=0 from hk) (by simp)
 have hv:=V.beq_ok hv
 subst hv
 refine(hc ρ W hl hs).mono ?_
 rintro e w' ⟨ρ',rfl,_,x,_⟩
 exact⟨rfl,x.os,x.tape,x.output,x.size,fun b hb=>x.keep b hb fun p o hp _ h2=>absurd (hs.bd p o hp).1 (by rw[hlo]at h2;omega)⟩
theorem zy2 {E:Env} {W:World} (h0:W.heap[(E.s 0).b]? = some (.cells (E.s 0).cs (E.s 0).t (E.s 0).fz)) (e0:(E.s 0).esz=5) (l0:E.i 1=(E.s 0).len):Sat E (fun _=>⟨(E.s 0).b,0⟩) hR5 W:=by
 have get:∀ p o,hR5.t.get p=some o->p=.h/\o=.row 0 5 (.v 1) (.v 2) []:=by
  intro p o hp
  by_cases h:p=.h
  ·subst h
   have:some (O.row 0 5 (.v 1) (.v 2) [])=some o:=hp
   exact⟨rfl,(Option.some.inj this).symm⟩
  ·have:hR5.t.get p=(PT.e:PT O).get p:=PT.get_set_other .h p .e _ (fun e=>h e.symm)
   rw[this,PT.get_e]at hp
   cases hp
 refine⟨fun p o hp=>?_,fun p q o o' hp hq hm _ _=>?_,fun p o hp=>?_⟩
 ·obtain⟨rfl,rfl⟩:=get p o hp
  exact⟨rfl,h0,e0,l0,fun h=>absurd rfl h⟩
 ·obtain⟨_,rfl⟩:=get p o hp
  cases hm
 ·obtain⟨rfl,rfl⟩:=get p o hp
  exact⟨by decide,trivial⟩
theorem hn5 {E:Env} {ρ:Rho} {W:World} (hs:Sat E ρ hR5 W):∀ (p:Ev.P) (o:O),hR5.t.get p=some o->o.live=true->hR5.lo.toNat<=p.toNat->W.heap.size<=(ρ p).b:=by
 intro p o hp _ h2
 have:=(hs.bd p o hp).1
 have e1:hR5.n.toNat=2:=rfl
 have e2:hR5.lo.toNat=2:=rfl
 omega
def envN:Env:=⟨fun _=>0,fun _=>false,fun _=>⟨0,0,0,0,0,0,0,#[],(0,0)⟩⟩
def env5 (b off len cap:Nat) (cs:Array Value) (t:TypeId) (fz:Nat × Nat):Env:=⟨fun _=>len,fun _=>false,fun _=>⟨b,off,len,cap,5,0,t,cs,fz⟩⟩
def LstT (W:World) (v:Value):Prop:=v=.slice none 0 0\/∃ b off len cap cs t fz,v=.slice (some ⟨b,off,none⟩) len cap/\W.heap[b]? = some (.cells cs t fz)/\∃ D:Nat->Tch,∀ i,i<len->cs[off+i*5+0]? = some (.bool (D i).s)/\cs[off+i*5+1]? = some (.int .i64 (D i).a)/\cs[off+i*5+2]? = some (.int .u64 (D i).w)/\cs[off+i*5+3]? = some (.int .i64 (D i).f)/\cs[off+i*5+4]? = some (.int .i64 (D i).o)/\(D i).Ok
theorem cA {E:Env}:zi E Tryz.prog zup:=zuo (zcl zwv) (zaq zwv)
theorem mem_any {W:World} {v0:Value} (L0:LstT W v0):Calls Tryz.prog 3 #[v0] W fun e w'=>e=.returned (.bool true)/\Below W.heap.size W w':=by
 rcases L0 with rfl | ⟨b,off,len,cap,cs,t,fz,rfl,hb,D,hD⟩
 ·exact ztV (E:=envN) (ρ:=fun _=>⟨0,0⟩) cA FaOk.nil n_run (W:=W) ⟨trivial,trivial⟩ (sat_nil _ W) rfl
 ·have hs:=zy2 (E:=env5 b off len cap cs t fz) (W:=W) hb rfl rfl
  exact mem_law (E:=env5 b off len cap cs t fz) (fun E=>zwv) rfl ⟨D,⟨rfl,hD⟩⟩ hs (hn5 hs)
instance:Inhabited Tch:=⟨⟨false,0,0,0,0⟩⟩
set_option maxRecDepth 100000 in
theorem zvf {H:Type} {enc:TypeId × Value->H} {w:World} {base:Nat} {spare:Nat->Bool} {held:Bool} {fuel:Nat} {cs:List Value} {x:DataW H × List MemPlace} (h:DataW.trod enc Tryz.prog w base spare held fuel 22 cs=some x) :
  cs=[.slice none 0 0]\/∃ (a:Addr) (len cap:Nat) (D:Nat->Tch),cs=[.slice (some a) len cap]/\∀ i,i<len->w.cell? (a.add (i*5))=some (.bool (D i).s)/\w.cell? (a.add (i*5+1))=some (.int .i64 (D i).a)/\w.cell? (a.add (i*5+2))=some (.int .u64 (D i).w)/\w.cell? (a.add (i*5+3))=some (.int .i64 (D i).f)/\w.cell? (a.add (i*5+4))=some (.int .i64 (D i).o)/\(D i).Ok:=by
 have ce:Tryz.prog.cellsOf 36=5:=by kernel_rfl
 have c3:Tryz.prog.cellsOf 3=1:=by kernel_rfl
 have c4:Tryz.prog.cellsOf 4=1:=by kernel_rfl
 have c5:Tryz.prog.cellsOf 33=1:=by kernel_rfl
 rcases Go.Deep.open_slice Tryz.underlying22 h with ⟨h0,_⟩ | ⟨a,len,cap,m,n,D,Pl,rfl,hb,hl,hm,hmm,rfl,hx⟩
 ·exact .inl h0
 right
 have hlm:len<=m:=by rw[hmm];split <;> omega
 have each:∀ i,i<len->∃ q:Tch,w.cell? (a.add (i*5))=some (.bool q.s)/\w.cell? (a.add (i*5+1))=some (.int .i64 q.a)/\w.cell? (a.add (i*5+2))=some (.int .u64 q.w)/\w.cell? (a.add (i*5+3))=some (.int .i64 q.f)/\w.cell? (a.add (i*5+4))=some (.int .i64 q.o)/\q.Ok:=by
  intro i hi
  obtain⟨cs',h1,h2⟩:=hx i (by omega)
  rw[ce]at h1
  obtain⟨_,hlen,hcell⟩:=World.cells?_some h1
  obtain⟨xs,k,hk,hxy,_,hxl,hf⟩:=DataW.trod_struct Tryz.underlying36 h2
  match xs,hxl,cs',hlen with
  | [y0,y1,y2,y3,y4],_,[v0,v1,v2,v3,v4],_=>
   have g0:=hf 0 _ rfl
   have g1:=hf 1 _ rfl
   have g2:=hf 2 _ rfl
   have g3:=hf 3 _ rfl
   have g4:=hf 4 _ rfl
   simp[c3,c4,c5]at g0 g1 g2 g3 g4
   obtain⟨n0,e0,_⟩:=DataW.trod_bool Tryz.underlying4 g0
   obtain⟨n1,e1,_,w1⟩:=DataW.trod_int Tryz.underlying3 g1
   obtain⟨n2,e2,_,w2⟩:=DataW.trod_int Tryz.underlying33 g2
   obtain⟨n3,e3,_,w3⟩:=DataW.trod_int Tryz.underlying3 g3
   obtain⟨n4,e4,_,w4⟩:=DataW.trod_int Tryz.underlying3 g4
   have e0:v0=.bool n0:=by simpa using e0
   have e1:v1=.int .i64 n1:=by simpa using e1
   have e2:v2=.int .u64 n2:=by simpa using e2
   have e3:v3=.int .i64 n3:=by simpa using e3
   have e4:v4=.int .i64 n4:=by simpa using e4
   have k0:=hcell 0 (by omega)
   have k1:=hcell 1 (by omega)
   have k2:=hcell 2 (by omega)
   have k3:=hcell 3 (by omega)
   have k4:=hcell 4 (by omega)
   rw[Go.Deep.add_add]at k0 k1 k2 k3 k4
   refine⟨⟨n0,n1,n2,n3,n4⟩,by rw[<- e0];simpa using k0,by rw[<- e1];simpa using k1,by rw[<- e2];simpa using k2,by rw[<- e3];simpa using k3,by rw[<- e4];simpa using k4,?_,?_,?_⟩
   ·show Go.Ev.X.I64 n1
    unfold Go.Ev.X.I64
    simp[Lit.wf,IntKind.min,IntKind.max,IntKind.signed,IntKind.bits]at w1;omega
   ·show Go.Ev.X.I64 n3
    unfold Go.Ev.X.I64
    simp[Lit.wf,IntKind.min,IntKind.max,IntKind.signed,IntKind.bits]at w3;omega
   ·show Go.Ev.X.I64 n4
    unfold Go.Ev.X.I64
    simp[Lit.wf,IntKind.min,IntKind.max,IntKind.signed,IntKind.bits]at w4;omega
 obtain⟨q,hq⟩:=Go.Deep.choose_lt each
 exact⟨a,len,cap,q,rfl,hq⟩
theorem zf5 {H:Type} {enc:TypeId × Value->H} {P:Program} (hl:laidOutB P=true) {W W':World} (hb:Below W.heap.size W W') :
  ∀ (ts:List TypeId) (vs:List Value) (ds:List (DataW H)) (ps:List MemPlace),(∀ t∈ts,P.readableRec t=true/\t<P.types.size) ->
  DataW.TrodAll enc P W 0 (fun _=>true) true ts vs ds ps->(∀ x∈ps,x.block<W.heap.size)->DataW.TrodAll enc P W' 0 (fun b=>decide (b<W.heap.size)) true ts vs ds ps:=by
 intro ts
 induction ts with
 | nil=>
  intro vs ds ps _ h _
  obtain⟨rfl,rfl,rfl⟩:=trodAll_nil h
  exact trodAll_mk0
 | cons t ts ih=>
  intro vs ds ps hr h hlt
  obtain⟨v0,vs0,d0,ds0,p0,q0,rfl,rfl,rfl,h0,r0⟩:=trodAll_cons h
  have h1:=hr t (by simp)
  exact trodAll_cons_mk (Below.trod hl h1.1 h1.2 h0 hb (fun x hx=>hlt x (by simp[hx]))) (ih _ _ _ (fun t' ht'=>hr t' (by simp[ht'])) r0 (fun x hx=>hlt x (by simp[hx])))
theorem zAr {H:Type} {enc:TypeId × Value->H} {P:Program} {f:Func} {s:ChangeSpec} {W W':World} {args:Array Value} {ds gs:List (DataW H)} {before:List MemPlace} {tb:TypeId}
  (hl:laidOutB P=true) (hr:∀ t∈f.params.toList,P.readableRec t=true/\t<P.types.size) (hvars:s.vars=[]) (hres:f.resultTypes=#[tb]) (htb:P.underlying tb=some .bool)
  (hW:DataW.Whole enc P f.params.toList s.vars false W args.toList ds gs before) (hb:Below W.heap.size W W')
  (hfn:s.fn H (ds ++ gs)={ results:=[.lit (.bool true)],args:=ds }) :
  s.post enc P f false true false false W args (.bool true) W':=by
 have hW0:=hW
 obtain⟨p,q,hA,hV,hpq,hfz,hnd⟩:=hW
 refine⟨ds,gs,before,[],p,[],hW0,?_,?_,?_,hb.frame _,fun h=>by cases h⟩
 ·rw[hfn,hres]
  exact trodAll_cons_mk (shut_bool htb true) trodAll_mk0
 ·rw[hfn]
  refine zf5 hl hb _ _ _ _ hr hA (fun x hx=>?_)
  exact hW0.lt x (by rw[hpq];simp[hx])
 ·rw[hvars,hfn]
  rfl
theorem own:ownKnob Tryz.prog.godebug=none:=by kernel_rfl
theorem laidOut:laidOutB Tryz.prog=true:=by kernel_rfl
set_option maxRecDepth 100000 in
theorem contract (H:Type) (enc:TypeId × Value->H) (W:World) (base:Nat) (args:Array Value) (ds gs:List (DataW H)) (before:List MemPlace)
  (hval0:∀ (j:Nat) t v,Tryz.f3.params[j]? = some t->args[j]? = some v->Value.okWide Tryz.prog W .any base t v)
  (hW:DataW.Whole enc Tryz.prog Tryz.f3.params.toList Rows.topMemorySpec.vars false W args.toList ds gs before) (hL:laidMetH Tryz.prog Rows.topMemoryRow.laid W) :
  Calls Tryz.prog 3 args W fun e W'=>∃ v,e=.returned v/\Rows.topMemorySpec.post enc Tryz.prog Tryz.f3 false true false false W args v W':=by
 have hval:=hval0
 have hW':=hW
 obtain⟨p,q,hA0,hV,rfl,hfz,hnd⟩:=hW
 have hA:DataW.TrodAll enc Tryz.prog W 0 (fun _=>true) true Tryz.f3.params.toList args.toList ds p:=hA0
 rw[Tryz.params3]at hA hval
 obtain⟨v0,vs0,d0,ds0,p0,q0,hargs,rfl,rfl,h0,r0⟩:=trodAll_cons hA
 obtain⟨rfl,rfl,rfl⟩:=trodAll_nil r0
 obtain rfl:args=#[v0]:=by cases args;simp_all
 obtain⟨rfl,rfl⟩:=trodVars_none hV
 have L0:LstT W v0:=by
  have hv:=hval 0 22 _ rfl rfl
  obtain⟨a0,len0,cap0,rfl⟩:=okWide_slice Tryz.underlying22 hv
  obtain⟨fuel,hf⟩:=h0
  rcases zvf hf with he | ⟨ad,len,cap,D,he,hcell⟩
  ·simp only[Value.cells]at he
   injection he with he _
   injection he with e1 e2 e3
   subst e1;subst e2;subst e3
   exact .inl rfl
  ·simp only[Value.cells]at he
   injection he with he _
   injection he with e1 e2 e3
   subst e1;subst e2;subst e3
   have hh:W.has Tryz.prog .any base ad 36 cap0:=by
    unfold Value.okWide at hv
    rw[Tryz.underlying22]at hv
    simp only[Cell.okWide]at hv
    rw[Tryz.underlying22]at hv
    simp only[Cell.ok]at hv
    rw[Tryz.underlying22]at hv
    exact hv.2.2
   obtain⟨b,off,cs,t,fz,rfl,hb⟩:=zme hh
   refine .inr ⟨b,off,len0,cap0,cs,t,fz,rfl,hb,D,fun i hi=>?_⟩
   obtain⟨c0,c1,c2,c3,c4,c5⟩:=hcell i hi
   rw[yp]at c0 c1 c2 c3 c4
   refine⟨by simpa [World.cell?,hb] using c0,?_,?_,?_,?_,c5⟩
   ·rw[Nat.add_assoc];simpa [World.cell?,hb] using c1
   ·rw[Nat.add_assoc];simpa [World.cell?,hb] using c2
   ·rw[Nat.add_assoc];simpa [World.cell?,hb] using c3
   ·rw[Nat.add_assoc];simpa [World.cell?,hb] using c4
 have hrun:Calls Tryz.prog 3 #[v0] W fun e w'=>e=.returned (.bool true)/\Below W.heap.size W w':=mem_any L0
 refine hrun.mono fun e W' ⟨he,hk⟩=>?_
 subst he
 refine⟨_,rfl,zAr laidOut ?_ rfl rfl Tryz.underlying4 hW' hk rfl⟩
 rw[Tryz.params3]
 intro t ht
 simp only[List.mem_cons,List.not_mem_nil,or_false]at ht
 subst ht
 all_goals exact⟨by kernel_rfl,of_decide_eq_true (by kernel_rfl)⟩
end Go.Proofs.YtckgidiokbofiaaGreatDoor
end
