import Derived.Test.YtckgidiokbofiaaGreatDoorE5
import Derived.Test.YtckgidiokbofiaaGreatDoorE4
set_option linter.unusedSimpArgs false
set_option linter.unusedVariables false
noncomputable section
namespace Go.Ev
open Go Go.RowKit
variable {E E':Env} {P:Program} {N:Nat}
theorem zwz {Y:Ty} (hY:TyOk P Y) (hm:P.follows .mixedOrders=true) {dr:Nat->Option Dr} {F:Nat} {f:Func} {q:CutX} (hfn:P.funcs[F]? = some f) (hc:cutX Y dr f=some q) (hw:zbO dr f=true)
  {st:Nat->GS} {Inv:Nat->Nat->Env->Prop}
  (round:∀ m j E,Inv m j E->∃ g fa nx,zf E P g.call/\FaOk E fa/\runJ st q.x q.z (koB q.rs) g j fa nx=0/\Leads st Inv E nx m)
  {E:Env} {g0:Ctx} (h0:zf E P g0.call) {l:List V} {h00:H} {fa:Fa} (hfa:FaOk E fa) {nx:List (Nat × Sg)} (m:Nat) (hl:Leads st Inv E nx m)
  (hin:zbI l (fun fr=>zIn q.z g0 fr h00 fa (fun fr h _=>zeH st nx fr h) (koB q.rs))=0)
  {ρ:Rho} {w:World} (hs:Sat E ρ h00 w) (hbd:bdL h00.n.toNat l) (zaJ:∀ p o,h00.t.get p=some o->o.live=true->h00.lo.toNat<=p.toNat->w.heap.size<=(ρ p).b) :
  Calls P F (γL E ρ l).toArray w fun e w'=>e=.returned (.bool true)/\Below w.heap.size w w':=by
 unfold cutX at hc
 split at hc
 rotate_left
 ·simp at hc
 rename_i c rs hb hrs
 split at hc
 rotate_left
 ·simp at hc
 rename_i z x hz
 simp at hc;subst hc
 have hcz:=zeY hz
 subst hcz
 unfold zbO at hw
 rw[hb]at hw
 obtain⟨hB1,hB2⟩:=zdI hw
 obtain⟨fr,hk,hfr⟩:=jZ hin
 refine calls_of_wp hfn hb ?_
 have hf:zt E ρ h00.n.toNat fr ((γL E ρ l).toArray ++ Array.replicate (f.ntmps - (γL E ρ l).toArray.size) undef):=by
  intro t v hv
  have h2:=hfr t v hv
  have ht:t<l.length:=(List.getElem?_eq_some_iff.1 h2).1
  refine⟨?_,(yk _ l).1 hbd v (List.mem_of_getElem? h2)⟩
  rw[Array.getElem?_append_left (by simp[γL_length];exact ht)]
  simp[γL_get,h2]
 have kB:=fun E=>zvN (N:=f.ntmps) hY hrs w h00.lo E
 have L:=zgs (N:=f.ntmps) (w0:=w) (lo:=h00.lo) (QZ:=zgw P z (bodyPost P f (fun e w'=>e=.returned (.bool true)/\Below w.heap.size w w'))) (st:=st) (Inv:=Inv) hY hm hB2 fun m j E hI=>by
  obtain⟨g,fa,nx,hg,h1,h2,h3⟩:=round m j E hI
  exact⟨fa,nx,zhG (zGo Y f.ntmps dr z) g (koB rs),g,hg,h1,h2,h3,zcJ hY hm hg z _ _ hB1 (kB E)⟩
 refine zeZ hY hm h0 (w0:=w) (lo:=h00.lo) z fr h00 fa (koB rs) _ hB1 hk hfa (kB E) ?_ ρ w _ ⟨rfl,rfl,rfl,rfl,Nat.le_refl _,fun _ _=>rfl,zaJ⟩ hs hf (by simp[γL_length];omega) rfl
 intro fr' h' fa' hk' hfa' ρ' w' a' d' s' f' n' dd'
 obtain⟨hne,hall⟩:=znF hk'
 obtain⟨j',σ,m',E',hmem,hlt,hI',ht,hrow⟩:=hl hne
 obtain⟨d2,s2,f2⟩:=znL (hall _ hmem) ht hrow d' s' f'
 exact wp_loop_rounds (m'+1) (L m' j' E' hI' ρ' w' a' d2 s2 f2 n' dd')
end Go.Ev
end
set_option linter.unusedSimpArgs false
set_option linter.unusedVariables false
noncomputable section
namespace Go.Ev
open Go Go.RowKit
variable {E:Env} {P:Program}
def sgB:List (Nat × SE)->Sg
 | []=>fun _=>none
 | (a,s)::r=>fun i=>bc (Nat.beq i a) (some s) (sgB r i)
def one6:SE:=.op .add .i64 (.lit 1) (.v 6)
def fR0:List (SB × Bool):=[(.cmp .lss (.lit 0) one6,true)]
def fR1:List (SB × Bool):=[(.cmp .lss (.v 2) one6,true),(.cmp .eql (.v 2) (.lit 0),false)]
def fR2:List (SB × Bool):=[(.cmp .lss (.v 2) one6,false)]
def InvR (a t:Int) (m j:Nat) (E:Env):Prop:=E.i 3=a/\E.i 6=t/\((j=0/\m=5)\/(j=1/\1<=E.i 2/\(m:Int)+E.i 2=5))
theorem one6_v {t:Int} (ht:0<=t/\t<=3) (h:E.i 6=t):one6.den E=1+t:=by
 show jQ .i64 (1+E.i 6)=_
 rw[h,z7,IntKind.wrap_i64];omega
theorem zr4 {Y:Ty} (hY:TyOk P Y) (hm:P.follows .mixedOrders=true) {dr:Nat->Option Dr} {F:Nat} {f:Func} {q:CutX} (hfn:P.funcs[F]? = some f) (hc:cutX Y dr f=some q) (hw:zbO dr f=true)
  {st:Nat->GS} (hr:∀ j,j<2->zba (st j).h=true) {c:zD} {a t:Int} (ht:0<=t/\t<=3) (hcall:∀ E,E.i 3=a->E.i 6=t->zf E P c)
  {l0 l1 li:List (Nat × SE)} (g0:sgB l0 3=some (.v 3)/\sgB l0 6=some (.v 6)/\sgB l0 2=some (.lit 1)) (g1:sgB l1 3=some (.v 3)/\sgB l1 6=some (.v 6)/\sgB l1 2=some (.op .add .i64 (.v 2) (.lit 1))) (gi:sgB li 3=some (.v 3)/\sgB li 6=some (.v 6))
  (rB:runJ st q.x q.z (koB q.rs) ⟨c,F,20000⟩ 0 ⟨fR0,[]⟩ [(1,sgB l0)]=0)
  (rC:runJ st q.x q.z (koB q.rs) ⟨c,F,20000⟩ 1 ⟨fR1,[]⟩ [(1,sgB l1)]=0)
  (rD:runJ st q.x q.z (koB q.rs) ⟨c,F,20000⟩ 1 ⟨fR2,[]⟩ []=0)
  {E:Env} (h3:E.i 3=a) (h6:E.i 6=t) {gc:Ctx} (h0:zf E P gc.call) {l:List V} {h00:H} {fa:Fa} (hfa:FaOk E fa)
  (hin:zbI l (fun fr=>zIn q.z gc fr h00 fa (fun fr h _=>zeH st [(0,sgB li)] fr h) (koB q.rs))=0)
  {ρ:Rho} {w:World} (hs:Sat E ρ h00 w) (hbd:bdL h00.n.toNat l) (zaJ:∀ p o,h00.t.get p=some o->o.live=true->h00.lo.toNat<=p.toNat->w.heap.size<=(ρ p).b) :
  Calls P F (γL E ρ l).toArray w fun e w'=>e=.returned (.bool true)/\Below w.heap.size w w':=by
 have same:∀ {E:Env} {l:List (Nat × SE)},sgB l 3=some (.v 3)->sgB l 6=some (.v 6)->(anew (sgB l) E).i 3=E.i 3/\(anew (sgB l) E).i 6=E.i 6:=fun {E l} h h'=>⟨(zce (sgB l) E).i 3 _ h,(zce (sgB l) E).i 6 _ h'⟩
 refine zwz hY hm hfn hc hw (st:=st) (Inv:=InvR a t) ?_ h0 hfa 6 (fun _=>?_) hin hs hbd zaJ
 ·intro m j E hI
  obtain⟨h3,h6,hj⟩:=hI
  have h1:=one6_v ht h6
  have hcl:=hcall E h3 h6
  rcases hj with ⟨rfl,rfl⟩ | ⟨rfl,i1,i2⟩
  ·refine⟨⟨c,F,20000⟩,_,_,hcl,zpn ?_,rB,fun _=>?_⟩
   ·show ∀ c∈[_],_
    simp only[List.mem_cons,List.not_mem_nil,or_false,forall_eq]
    exact sb_lt (x:=0) rfl h1 (decide_eq_true (by omega))
   ·obtain⟨s3,s6⟩:=same (E:=E) g0.1 g0.2.1
    have s2:(anew (sgB l0) E).i 2=1:=(zce (sgB l0) E).i 2 _ g0.2.2
    exact⟨1,_,4,_,by simp,by omega,⟨s3.trans h3,s6.trans h6,.inr ⟨rfl,by omega,by omega⟩⟩,zce _ E,zc8 (hr 1 (by omega)) _⟩
  ·by_cases hlt:E.i 2<1+t
   ·refine⟨⟨c,F,20000⟩,_,_,hcl,zpn ?_,rC,fun _=>?_⟩
    ·show ∀ c∈[_,_],_
     simp only[List.mem_cons,List.not_mem_nil,or_false,forall_eq_or_imp,forall_eq]
     refine⟨sb_lt rfl h1 (decide_eq_true hlt),?_⟩
     show iEq (E.i 2) 0=false
     rw[jb];exact decide_eq_false (by omega)
    ·obtain⟨s3,s6⟩:=same (E:=E) g1.1 g1.2.1
     have s2:(anew (sgB l1) E).i 2=E.i 2+1:=((zce (sgB l1) E).i 2 _ g1.2.2).trans (by
      show jQ .i64 (E.i 2+1)=_
      rw[z7,IntKind.wrap_i64];omega)
     exact⟨1,_,m - 1,_,by simp,by omega,⟨s3.trans h3,s6.trans h6,.inr ⟨rfl,by omega,by omega⟩⟩,zce _ E,zc8 (hr 1 (by omega)) _⟩
   ·refine⟨⟨c,F,20000⟩,_,[],hcl,zpn ?_,rD,fun h=>absurd rfl h⟩
    show ∀ c∈[_],_
    simp only[List.mem_cons,List.not_mem_nil,or_false,forall_eq]
    exact sb_lt rfl h1 (decide_eq_false hlt)
 ·obtain⟨s3,s6⟩:=same (E:=E) gi.1 gi.2
  exact⟨0,_,5,_,by simp,by omega,⟨s3.trans h3,s6.trans h6,.inl ⟨rfl,rfl⟩⟩,zce _ E,zc8 (hr 0 (by omega)) _⟩
end Go.Ev
end
set_option linter.unusedSimpArgs false
set_option linter.unusedVariables false
noncomputable section
namespace Go.Ev
open Go
variable {E E':Env} {P:Program}
def w0:V:=.i .u64 0
structure Wm where
 rd:List (Nat × Nat)
 tr:Tr V
 v:Int
 st:Nat
def hWm (c:MC) (s:Wm):H:=⟨.i .h,.h,((PT.e:PT O).set .h (.arr c.tA c.N 13 w0 s.tr)).set (.o .h) (.cells c.tM [.sl .h 0 c.N c.N,.si .i64 (.v 5)])⟩
def Wm.ok (c:MC) (s:Wm):K:=fun v h _=>bc (V.beq v (.i .i64 s.v)) (bc (za9 (h.t.get .h) (some (.arr c.tA c.N 13 w0 s.tr))) (bc (za9 (h.t.get (.o .h)) (some (.cells c.tM [.sl .h 0 c.N c.N,.si .i64 (stP s.st)]))) 0 1) 1) 1
def Wm.run (c:MC) (F:Nat) (s:Wm) (call:zD):Nat:=call F [.ptr (.o .h) 0] (hWm c s) ⟨[],[]⟩ (s.ok c)
def wV (σ:Sg) (p u:V):Bool:=vIK p (fun k e=>vIK u (fun k' e'=>kEq k k' && mE σ e e') false) false
def wN (σ:Sg):Tr V->Bool
 | .nil=>true
 | .leaf a=>wV σ a w0
 | .node l r=>wN σ l && wN σ r
def wM (σ:Sg):Tr V->Bool
 | .nil=>true
 | .leaf a=>wV σ w0 a
 | .node l r=>wM σ l && wM σ r
def wT (σ:Sg):Tr V->Tr V->Bool
 | .nil,b=>wM σ b
 | .leaf a,.nil=>wV σ a w0
 | .leaf a,.leaf b=>wV σ a b
 | .leaf _,.node _ _=>false
 | .node l r,.nil=>wN σ l && wN σ r
 | .node _ _,.leaf _=>false
 | .node l r,.node l' r'=>wT σ l l' && wT σ r r'
theorem vIB_ok {x:V} {f:IntKind->SE->Bool} (h:vIK x f false=true):∃ k e,f k e=true/\∀ E ρ,x.γ E ρ=.int k (e.den E):=by
 cases x <;> first | (cases h;done) | skip
 ·exact⟨_,_,h,fun E ρ=>rfl⟩
 ·exact⟨_,_,h,fun E ρ=>rfl⟩
theorem wV_ok {σ:Sg} (t:TrE σ E E') {p u:V} (h:wV σ p u=true) (ρ ρ':Rho):u.γ E ρ=p.γ E' ρ':=by
 obtain⟨k,e,h1,g1⟩:=vIB_ok h
 obtain⟨k',e',h2,g2⟩:=vIB_ok h1
 simp only[Bool.and_eq_true]at h2
 rw[g1,g2,yo h2.1,zqh t h2.2]
theorem zpK {σ:Sg} (t:TrE σ E E') (ρ ρ':Rho):∀ {a:Tr V} (d i:Nat),wN σ a=true->w0.γ E ρ=(yl a d w0 i).γ E' ρ'
 | .nil,d,i,h=>by
  have:yl (.nil:Tr V) d w0 i=w0:=by unfold yl;rw[Tr.get_nil];rfl
  rw[this];rfl
 | .leaf x,d,i,h=>by
  cases d with
  | zero=>exact wV_ok t h ρ ρ'
  | succ d=>exact(rfl:w0.γ E ρ=w0.γ E' ρ')
 | .node l r,d,i,h=>by
  simp only[wN,Bool.and_eq_true]at h
  cases d with
  | zero=>exact(rfl:w0.γ E ρ=w0.γ E' ρ')
  | succ d=>
   rw[zaO]
   split
   ·exact zpK t ρ ρ' d _ h.1
   ·exact zpK t ρ ρ' d _ h.2
theorem wM_at {σ:Sg} (t:TrE σ E E') (ρ ρ':Rho):∀ {b:Tr V} (d i:Nat),wM σ b=true->(yl b d w0 i).γ E ρ=w0.γ E' ρ'
 | .nil,d,i,h=>by
  have:yl (.nil:Tr V) d w0 i=w0:=by unfold yl;rw[Tr.get_nil];rfl
  rw[this];rfl
 | .leaf x,d,i,h=>by
  cases d with
  | zero=>exact wV_ok t h ρ ρ'
  | succ d=>exact(rfl:w0.γ E ρ=w0.γ E' ρ')
 | .node l r,d,i,h=>by
  simp only[wM,Bool.and_eq_true]at h
  cases d with
  | zero=>exact(rfl:w0.γ E ρ=w0.γ E' ρ')
  | succ d=>
   rw[zaO]
   split
   ·exact wM_at t ρ ρ' d _ h.1
   ·exact wM_at t ρ ρ' d _ h.2
theorem zgx {σ:Sg} (t:TrE σ E E') (ρ ρ':Rho):∀ {a b:Tr V} (d i:Nat),wT σ a b=true->(yl b d w0 i).γ E ρ=(yl a d w0 i).γ E' ρ'
 | .nil,b,d,i,h=>by
  have e:yl (.nil:Tr V) d w0 i=w0:=by unfold yl;rw[Tr.get_nil];rfl
  rw[e]
  exact wM_at t ρ ρ' d i (by cases b <;> exact h)
 | .leaf a,.nil,d,i,h=>by
  have e:yl (.nil:Tr V) d w0 i=w0:=by unfold yl;rw[Tr.get_nil];rfl
  rw[e];exact zpK t ρ ρ' (a:=.leaf a) d i h
 | .leaf a,.leaf b,d,i,h=>by
  cases d with
  | zero=>exact wV_ok t h ρ ρ'
  | succ d=>exact(rfl:w0.γ E ρ=w0.γ E' ρ')
 | .leaf _,.node _ _,d,i,h=>by simp[wT]at h
 | .node l r,.nil,d,i,h=>by
  have e:yl (.nil:Tr V) d w0 i=w0:=by unfold yl;rw[Tr.get_nil];rfl
  rw[e];exact zpK t ρ ρ' (a:=.node l r) d i h
 | .node _ _,.leaf _,d,i,h=>by simp[wT]at h
 | .node l r,.node l' r',d,i,h=>by
  simp only[wT,Bool.and_eq_true]at h
  cases d with
  | zero=>exact(rfl:w0.γ E ρ=w0.γ E' ρ')
  | succ d=>
   rw[zaO,zaO]
   split
   ·exact zgx t ρ ρ' d _ h.1
   ·exact zgx t ρ ρ' d _ h.2
def wBd:Tr V->Bool
 | .nil=>true
 | .leaf a=>vIK a (fun _ _=>true) false
 | .node l r=>wBd l && wBd r
theorem zhI:∀ {a:Tr V} (d i:Nat) (v:V),wBd a=true->a.get d i=some v->v.bd 0
 | .nil,d,i,v,h,hg=>by rw[Tr.get_nil]at hg;cases hg
 | .leaf x,0,i,v,h,hg=>by
  have hg:some x=some v:=hg
  cases hg
  cases x <;> first | (cases h;done) | exact trivial
 | .leaf x,d+1,i,v,h,hg=>by rw[Tr.get_succ]at hg;cases hg
 | .node l r,0,i,v,h,hg=>by cases hg
 | .node l r,d+1,i,v,h,hg=>by
  simp only[wBd,Bool.and_eq_true]at h
  rw[Tr.get_succ]at hg
  have hg:(if i % 2=0 then l.get d (i / 2) else r.get d (i / 2))=some v:=hg
  split at hg
  ·exact zhI d _ v h.1 hg
  ·exact zhI d _ v h.2 hg
def Wm.app (c:MC) (s:Wm) (h:H) (fa:Fa) (m:Ev.P):Option AR:=
 bc (zbx h m) (oc (yb h m) (fun o=>memO o (fun tm id n n' st=>bc (Nat.beq tm c.tM && Nat.beq n c.N && Nat.beq n' c.N && zbx h id) (oc (yb h id) (fun oi=>arrO oi (fun ta n2 d z tr=>
  bc (Nat.beq ta c.tA && Nat.beq n2 c.N && Nat.beq d 13 && V.beq z w0) (oc (rdT z tr s.rd [(5,st)]) (fun σ=>bc (yR (fun p:Nat × SE=>Nat.blt p.1 100000) σ && wT (lk σ) s.tr tr) (some ⟨m,id,.cells c.tM [.sl id 0 n n,stO fa st s.st],.arr ta n2 13 z tr,.i .i64 s.v⟩) none) none) none) none) none) none) none) none) none
def zeT (E:Env) (σ:Sl):Env:=⟨fun i=>match lk σ i with
 | some s=>s.den E
 | none=>0,E.b,E.s⟩
theorem lk_key:∀ {σ:Sl} {i:Nat} {s:SE},lk σ i=some s->∃ p∈σ,p.1=i
 | [],i,s,h=>by cases h
 | (j,e)::r,i,s,h=>by
  have h:bc (Nat.beq i j) (some e) (lk r i)=some s:=h
  cases hb:Nat.beq i j with
  | true => exact ⟨(j, e), List.mem_cons_self .., by have : i = j := by simpa using hb
                                                     exact this.symm⟩
  | false=>
   rw[hb]at h
   obtain⟨p,h1,h2⟩:=lk_key (σ:=r) h
   exact⟨p,List.mem_cons_of_mem _ h1,h2⟩
theorem zqD {σ:Sl} (hσ:yR (fun p:Nat × SE=>Nat.blt p.1 100000) σ=true):TrE (lk σ) E (zeT E σ):=by
 refine⟨fun i s h=>by simp only[zeT,h],rfl,fun q _=>⟨rfl,rfl,rfl,rfl,rfl,rfl,rfl,rfl⟩,fun q q' hq h=>?_⟩
 obtain⟨p,h1,h2⟩:=lk_key h
 have h3:=jP hσ p h1
 have h3:p.1<100000:=by simpa using h3
 omega
theorem zdU {c:MC} {s:Wm} {p:Ev.P} {o:O} (h:(hWm c s).t.get p=some o):(p=.h/\o=.arr c.tA c.N 13 w0 s.tr)\/(p=.o .h/\o=.cells c.tM [.sl .h 0 c.N c.N,.si .i64 (.v 5)]):=by
 have h:(((PT.e:PT O).set .h (.arr c.tA c.N 13 w0 s.tr)).set (.o .h) (.cells c.tM [.sl .h 0 c.N c.N,.si .i64 (.v 5)])).get p=some o:=h
 by_cases e:p=.o .h
 ·subst e
  rw[PT.get_set_same]at h
  exact .inr ⟨rfl,(Option.some.inj h).symm⟩
 ·rw[PT.get_set_other _ _ _ _ (fun h=>e h.symm)]at h
  by_cases e2:p=.h
  ·subst e2
   rw[PT.get_set_same]at h
   exact .inl ⟨rfl,(Option.some.inj h).symm⟩
  ·rw[PT.get_set_other _ _ _ _ (fun h=>e2 h.symm),PT.get_e]at h
   cases h
theorem rdT_5 {z:V} {tr:Tr V}:∀ {l:List (Nat × Nat)} {σ σ':Sl},(∀ p∈l,p.2≠5)->rdT z tr l σ=some σ'->∀ st,lk σ 5=some st->lk σ' 5=some st
 | [],σ,σ',_,h,st,h5=>by
  have h:some σ=some σ':=h
  cases h;exact h5
 | (a,s)::r,σ,σ',hne,h,st,h5=>by
  have h:vIK (oc (tr.get 13 a) (fun v=>v) z) (fun k e=>bc (kEq .u64 k) (rdT z tr r ((s,e)::σ)) none) none=some σ':=h
  have key:∀ k e,bc (kEq .u64 k) (rdT z tr r ((s,e)::σ)) none=some σ'->lk σ' 5=some st:=fun k e h=>by
   obtain⟨_,h⟩:=jO h
   refine rdT_5 (fun p hp=>hne p (List.mem_cons_of_mem _ hp)) h st ?_
   show bc (Nat.beq 5 s) (some e) (lk σ 5)=some st
   have:Nat.beq 5 s=false:=by
    rw[Bool.eq_false_iff]
    intro hh
    have hh:5=s:=by simpa using hh
    exact hne (a,s) (List.mem_cons_self ..) hh.symm
   rw[this];exact h5
  revert h
  generalize oc (tr.get 13 a) (fun v=>v) z=x
  intro h
  cases x <;> first | (cases h;done) | exact key _ _ h
theorem Wm.app_run {c:MC} {s:Wm} {F:Nat} {ze:zD} (hcall:∀ E':Env,(∀ q,q≠7->E'.s q=E.s q)->zf E' P ze) (hN:c.N<=8192) (hb:wBd s.tr=true) (h5:∀ p∈s.rd,p.2≠5) (hr:s.run c F ze=0) {m:Ev.P} {h:H} {fa:Fa} {x:AR}
  (ha:s.app c h fa m=some x) (hfa:FaOk E fa) :
  yE P F/\x.v.bd 0/\∀ ρ w,Sat E ρ h w->Calls P F (γL E ρ [.ptr m 0]).toArray w fun e w'=>e=.returned (x.v.γ E ρ)/\Sat E ρ (h.two x.m x.id x.om x.oi) w'/\Ext ρ h w ρ (h.two x.m x.id x.om x.oi) w':=by
 unfold Wm.app at ha
 obtain⟨hmm,ha2⟩:=jO ha
 obtain⟨om0,hom,ha3⟩:=yZ ha2
 rw[zH]at hom
 obtain⟨tm,id,n,n',stv,st,e0,ha4,hst⟩:=ziE ha3
 obtain⟨hb4,ha5⟩:=jO ha4
 simp only[Bool.and_eq_true,Nat.beq_eq]at hb4
 obtain⟨⟨⟨e1,e2⟩,e3⟩,hmi⟩:=hb4
 obtain⟨oi0,hoi,ha6⟩:=yZ ha5
 rw[zH]at hoi
 obtain⟨ta,n2,d,z,tr,e4,ha7⟩:=zi7 ha6
 obtain⟨hb7,ha8⟩:=jO ha7
 simp only[Bool.and_eq_true,Nat.beq_eq]at hb7
 obtain⟨⟨⟨e5,e6⟩,e7⟩,e8⟩:=hb7
 have e8:=V.beq_ok e8
 obtain⟨σ,hσ,ha9⟩:=yZ ha8
 obtain⟨hb9,ha10⟩:=jO ha9
 simp only[Bool.and_eq_true]at hb9
 obtain⟨hkey,hwT⟩:=hb9
 have hx:=Option.some.inj ha10
 clear ha ha2 ha3 ha4 ha5 ha6 ha7 ha8 ha9 ha10
 subst e0 e1 e2 e3 e4 e5 e6 e7 e8
 subst hx
 have hne:m≠id:=by
  intro e
  subst e
  rw[hom]at hoi
  cases hoi
 have t:=zqD (E:=E) hkey
 have hc:=hcall (zeT E σ) (fun q _=>rfl)
 obtain⟨hcall1,v0,h0,fa0,hk0,_,hrun⟩:=hc _ _ _ _ _ hr FaOk.nil
 unfold Wm.ok at hk0
 obtain⟨q1,hk0⟩:=zn hk0 (by simp)
 obtain⟨q2,hk0⟩:=zn hk0 (by simp)
 obtain⟨q3,_⟩:=zn hk0 (by simp)
 have q1:=V.beq_ok q1
 have q2:=jT q2
 have q3:=jT q3
 subst q1
 refine⟨hcall1,trivial,fun ρ w hs=>?_⟩
 obtain⟨hn13,cs,hcs,hsz,hcell⟩:=hs.obj id _ hoi
 have hmem:=hs.obj m _ hom
 have hmem:w.heap[(ρ m).b]? = some (.cells #[.slice (some ⟨(ρ id).b,0,none⟩) c.N c.N,stv.γ E ρ] c.tM (0,0)):=hmem
 have h5':(zeT E σ).i 5=st.den E:=t.i 5 st (rdT_5 h5 hσ st rfl)
 obtain⟨ρ',hρ'⟩:∃ ρ':Rho,ρ'=fun p=>match p with | .h=>ρ id | _=>ρ m:=⟨_,rfl⟩
 have hρ1:ρ' .h=ρ id:=by rw[hρ']
 have hρ2:ρ' (.o .h)=ρ m:=by rw[hρ']
 have hsat:Sat (zeT E σ) ρ' (hWm c s) w:=by
  refine⟨fun p o hp=>?_,fun p q o o' hp hq _ _ hh=>?_,fun p o hp=>?_⟩
  ·rcases zdU hp with ⟨rfl,rfl⟩ | ⟨rfl,rfl⟩
   ·rw[hρ1]
    refine⟨by omega,cs,hcs,hsz,fun i hi=>?_⟩
    rw[hcell i hi,zgx t ρ ρ' 13 i hwT]
   ·rw[hρ2]
    show w.heap[(ρ m).b]? = some (.cells (γL (zeT E σ) ρ' [.sl .h 0 c.N c.N,.si .i64 (.v 5)]).toArray c.tM (0,0))
    rw[hmem]
    simp only[γL,V.γ,hρ1,SE.den,h5',hst]
  ·rcases zdU hp with ⟨rfl,rfl⟩ | ⟨rfl,rfl⟩ <;> rcases zdU hq with ⟨rfl,rfl⟩ | ⟨rfl,rfl⟩
   ·rfl
   ·rw[hρ1,hρ2]at hh
    exact absurd (hs.inj id m _ _ hoi hom rfl rfl hh).symm hne
   ·rw[hρ1,hρ2]at hh
    exact absurd (hs.inj m id _ _ hom hoi rfl rfl hh) hne
   ·rfl
  ·rcases zdU hp with ⟨rfl,rfl⟩ | ⟨rfl,rfl⟩
   ·exact⟨by show (1:Nat)<3;decide,trivial,fun i v hi hv=>bd_mono (Nat.zero_le _) v (zhI 13 i v hb hv)⟩
   ·exact⟨by show (2:Nat)<3;decide,by show (1:Nat)<3;decide,trivial,trivial⟩
 have hγ:γL (zeT E σ) ρ' [.ptr (.o .h) 0]=γL E ρ [.ptr m 0]:=by
  simp only[γL,V.γ,hρ2]
 have hbd:bdL (hWm c s).n.toNat [.ptr (.o .h) 0]:=⟨by show (2:Nat)<3;decide,trivial⟩
 have hrun:=hrun ρ' w hbd hsat
 rw[hγ]at hrun
 refine hrun.mono ?_
 rintro e w' ⟨ρ2,he,hs',hx',_⟩
 have a1:ρ2 .h=ρ id:=by rw[hx'.agree .h (by show (1:Nat)<3;decide),hρ1]
 have a2:ρ2 (.o .h)=ρ m:=by rw[hx'.agree (.o .h) (by show (2:Nat)<3;decide),hρ2]
 refine⟨he,?_⟩
 have i1:=hs'.obj .h _ q2
 have i2:=hs'.obj (.o .h) _ q3
 rw[a1]at i1
 rw[a2]at i2
 obtain⟨_,cs',k1,k2,k3⟩:=i1
 refine zpR hs hom hoi rfl rfl hne (yL h m hmm) (yL h id hmi) ?_ ?_ ?_ ?_ hx'.os hx'.tape hx'.output hx'.size ?_
 ·show w'.heap[(ρ m).b]? = some (.cells (γL E ρ [.sl id 0 c.N c.N,stO fa st s.st]).toArray c.tM (0,0))
  have i2:w'.heap[(ρ m).b]? = some (.cells (γL (zeT E σ) ρ2 [.sl .h 0 c.N c.N,.si .i64 (stP s.st)]).toArray c.tM (0,0)):=i2
  rw[i2]
  have:(stO fa st s.st).γ E ρ=V.γ (zeT E σ) ρ2 (.si .i64 (stP s.st)):=by
   unfold stO stP
   cases Nat.beq s.st 0 with
   | true=>
    show (mkE .i64 st).γ E ρ=Value.int .i64 ((zeT E σ).i 5)
    rw[(zbN _ _ _).1,h5']
   | false=>
    show (mkE .i64 (opS fa .add .i64 st (.lit s.st))).γ E ρ=Value.int .i64 (arS .add .i64 ((zeT E σ).i 5) s.st)
    rw[(zbN _ _ _).1,ziA hfa,h5']
    rfl
  simp only[γL,this]
  simp only[V.γ,a1]
 ·refine⟨hn13,cs',k1,k2,fun i hi=>?_⟩
  rw[k3 i hi,zgx t ρ ρ2 13 i hwT]
 ·refine⟨(hs.bd id _ hoi).1,?_,trivial⟩
  unfold stO
  cases Nat.beq s.st 0 with
  | true=>exact bd_mono (Nat.zero_le _) _ (zbN (E:=E) _ _ ρ).2
  | false=>exact bd_mono (Nat.zero_le _) _ (zbN (E:=E) _ _ ρ).2
 ·exact(hs.bd id _ hoi).2
 ·intro b hb n1 n2
  refine hx'.keep b hb fun p o hp _ _=>?_
  rcases zdU hp with ⟨rfl,rfl⟩ | ⟨rfl,rfl⟩
  ·rw[hρ1];exact fun e=>n2 e.symm
  ·rw[hρ2];exact fun e=>n1 e.symm
end Go.Ev
end
set_option linter.unusedSimpArgs false
set_option linter.unusedVariables false
noncomputable section
namespace Go.Ev
open Go
variable {E E':Env} {P:Program}
mutual
def V.litB:V->Bool
 | .b _=>true
 | .i _ _=>true
 | .ptr _ _=>true
 | .nil=>true
 | .sl _ _ _ _=>true
 | .vec _ _=>true
 | .vt _ _ _=>true
 | .snil=>true
 | .fnil=>true
 | .mnil=>true
 | .mp _=>true
 | .agg l=>zcg l
 | .tup l=>zcg l
 | _=>false
def zcg:List V->Bool
 | []=>true
 | v::r=>v.litB && zcg r
end
mutual
theorem lit_γ:∀ {v:V} (ρ:Rho),v.litB=true->v.γ E ρ=v.γ E' ρ
 | .b _,_,_=>rfl
 | .i _ _,_,_=>rfl
 | .ptr _ _,_,_=>rfl
 | .nil,_,_=>rfl
 | .sl _ _ _ _,_,_=>rfl
 | .vec _ _,_,_=>rfl
 | .vt _ _ _,_,_=>rfl
 | .snil,_,_=>rfl
 | .fnil,_,_=>rfl
 | .mnil,_,_=>rfl
 | .mp _,_,_=>rfl
 | .agg l,ρ,h=>by
  show Value.agg (γL E ρ l).toArray=Value.agg (γL E' ρ l).toArray
  rw[zde ρ (show zcg l=true from h)]
 | .tup l,ρ,h=>by
  show Value.tuple (γL E ρ l).toArray=Value.tuple (γL E' ρ l).toArray
  rw[zde ρ (show zcg l=true from h)]
 | .sb _,_,h=>by cases h
 | .si _ _,_,h=>by cases h
 | .fn _ _ _,_,h=>by cases h
 | .fs _ _,_,h=>by cases h
 | .fp _ _ _,_,h=>by cases h
 | .yd _,_,h=>by cases h
theorem zde:∀ {l:List V} (ρ:Rho),zcg l=true->γL E ρ l=γL E' ρ l
 | [],_,_=>rfl
 | v::r,ρ,h=>by
  simp only[zcg,Bool.and_eq_true]at h
  show v.γ E ρ::γL E ρ r=v.γ E' ρ::γL E' ρ r
  rw[lit_γ ρ h.1,zde ρ h.2]
end
theorem γL_append (ρ:Rho):∀ (l m:List V),γL E ρ (l ++ m)=γL E ρ l ++ γL E ρ m
 | [],m=>rfl
 | v::r,m=>by show v.γ E ρ::γL E ρ (r ++ m)=v.γ E ρ::(γL E ρ r ++ γL E ρ m);rw[γL_append ρ r m]
theorem zdm {n:Nat}:∀ {l m:List V},bdL n l->bdL n m->bdL n (l ++ m)
 | [],m,_,h=>h
 | v::r,m,h,h'=>⟨h.1,zdm h.2 h'⟩
def O.fixB (n:Ev.P):O->Bool
 | .cells _ l=>zcg l && zcb n l
 | _=>false
theorem sat_upd {ρ:Rho} {h h':H} {w w':World} (hs:Sat E ρ h w) (hn:h'.n=h.n) (hl:h'.lo=h.lo) (S:Ev.P->Prop) (hS:∀ p,S p->∃ o0,h.t.get p=some o0/\o0.mine=true/\h.lo.toNat<=p.toNat)
  (hg:∀ p o,h'.t.get p=some o->(S p/\o.Is E ρ (ρ p) w'.heap/\o.bd h.n.toNat)\/(¬ S p/\h.t.get p=some o)) (hk:∀ p,¬ S p->h'.t.get p=h.t.get p)
  (eos:w'.os=w.os) (etp:w'.tape=w.tape) (eou:w'.output=w.output) (esz:w.heap.size<=w'.heap.size) (ekp:∀ b,b<w.heap.size->(∀ p,S p->b≠(ρ p).b)->w'.heap[b]? = w.heap[b]?) :
  Sat E ρ h' w'/\Ext ρ h w ρ h' w':=by
 have orig:∀ p u,h'.t.get p=some u->u.live=true->∃ u0,h.t.get p=some u0/\u0.live=true:=by
  intro p u hp l1
  rcases hg p u hp with ⟨hs1,_,_⟩ | ⟨_,hp⟩
  ·obtain⟨o0,g1,g2,_⟩:=hS p hs1
   exact⟨o0,g1,yz g2⟩
  ·exact⟨u,hp,l1⟩
 have orig2:∀ p u,h'.t.get p=some u->u.mine=true->∃ u0,h.t.get p=some u0/\u0.mine=true:=by
  intro p u hp l1
  rcases hg p u hp with ⟨hs1,_,_⟩ | ⟨_,hp⟩
  ·obtain⟨o0,g1,g2,_⟩:=hS p hs1
   exact⟨o0,g1,g2⟩
  ·exact⟨u,hp,l1⟩
 refine⟨⟨fun p u hp=>?_,fun p q u u' hp hq l1 l2 hh=>?_,fun p u hp=>?_⟩,⟨by rw[hn];exact Nat.le_refl _,hl,fun _ _=>rfl,fun p u g1 g2=>?_,eos,etp,eou,esz,fun b hb hnb=>?_,fun p hp _=>?_,fun p u hp hg1 hl2=>orig p u hg1 hl2⟩⟩
 ·rcases hg p u hp with ⟨_,h1,_⟩ | ⟨n1,hp⟩
  ·exact h1
  ·exact O.Is_heap E (fun hlu=>ekp _ (hs.lt E hp hlu) (fun q hq e=>by
    obtain⟨o0,g1,g2,_⟩:=hS q hq
    have:=hs.inj q p o0 u g1 hp g2 hlu e.symm
    subst this
    exact n1 hq)) (hs.obj p u hp)
 ·obtain⟨u0,g1,k1⟩:=orig2 p u hp l1
  obtain⟨u1,g2,k2⟩:=orig q u' hq l2
  exact hs.inj p q u0 u1 g1 g2 k1 k2 hh
 ·rw[hn]
  rcases hg p u hp with ⟨h1,_,h3⟩ | ⟨n1,hp⟩
  ·obtain⟨o0,g1,_,_⟩:=hS p h1
   exact⟨(hs.bd p o0 g1).1,h3⟩
  ·exact hs.bd p u hp
 ·intro hl2
  exfalso
  obtain⟨u0,k1,_⟩:=orig p u g2 hl2
  exact absurd (hs.bd p u0 k1).1 (Nat.not_lt.2 g1)
 ·refine ekp b hb (fun p hp e=>?_)
  obtain⟨o0,g1,g2,g3⟩:=hS p hp
  exact hnb p o0 g1 (yz g2) g3 e.symm
 ·refine hk p (fun hp2=>?_)
  obtain⟨o0,g1,g2,g3⟩:=hS p hp2
  have hp:p.toNat<h.lo.toNat:=hp
  omega
structure XC where
 tA:Nat
 tM:Nat
 tK:Nat
 N:Nat
 n0:Ev.P
 m:Ev.P
 id:Ev.P
 kp:Ev.P
 kc:List V
 fix:List (Ev.P × O)
structure Xm where
 l:List V
 tr:Tr V
 rd:List (Nat × Nat)
 fa:List (SB × Bool)
 v:RR
 wr:List (Nat × RS)
 st:Nat
 u:Int
def ptL:List (Ev.P × O)->PT O
 | []=>.e
 | (p,o)::r=>(ptL r).set p o
def oK (c:XC) (v:V):O:=.cells c.tK (c.kc ++ [v])
def oM (c:XC) (v:V):O:=.cells c.tM [.sl c.id 0 c.N c.N,v]
def hX (c:XC) (s:Xm):H:=⟨c.n0,.h,(((ptL c.fix).set c.kp (oK c (.si .i64 (.v 6)))).set c.id (.arr c.tA c.N 13 w0 s.tr)).set c.m (oM c (.si .i64 (.v 5)))⟩
def Xm.ok (c:XC) (s:Xm):K:=fun v h _=>bc (V.beq v s.v.v) (bc (za9 (h.t.get c.id) (some (.arr c.tA c.N 13 w0 (trWr s.tr s.wr)))) (bc (za9 (h.t.get c.m) (some (oM c (.si .i64 (stP s.st))))) (bc (za9 (h.t.get c.kp) (some (oK c (.i .i64 s.u))))
 (bc (yR (fun p:Ev.P × O=>za9 (h.t.get p.1) (some p.2)) c.fix) 0 5) 4) 3) 2) 1
def Xm.run (c:XC) (F:Nat) (s:Xm) (call:zD):Nat:=call F s.l (hX c s) ⟨s.fa,[]⟩ (s.ok c)
def XC.wf (c:XC):Bool:=Nat.ble c.N 8192 && pLt c.m c.n0 && pLt c.id c.n0 && pLt c.kp c.n0 && zcg c.kc && zcb c.n0 c.kc && yR (fun p:Ev.P × O=>pLt p.1 c.n0 && p.2.fixB c.n0) c.fix
def Xm.wf (c:XC) (s:Xm):Bool:=zcg s.l && zcb c.n0 s.l && wBd s.tr && yR (fun p:Nat × Nat=>Nat.blt 6 p.2) s.rd && yR (fun p:Nat × RS=>Nat.blt p.1 c.N) s.wr
def zqj:List V->List V->Option SE
 | [],[x]=>vIK x (fun k e=>bc (kEq .i64 k) (some e) none) none
 | a::r,b::s=>bc (V.beq a b) (zqj r s) none
 | _,_=>none
def celO {σ:Type} (o:O) (f:TypeId->List V->σ) (e:σ):σ:=match o with
 | .cells t l=>f t l
 | _=>e
structure XR where
 om:O
 oi:O
 ok:O
 v:V
def XR.go {σ:Type} (x:XR) (f:O->O->O->V->σ):σ:=XR.rec (motive:=fun _=>σ) f x
def Xm.app2 (c:XC) (s:Xm) (fa:Fa) (t:TypeId) (z:V) (tr:Tr V) (st:SE) (σ:Sl):Option XR:=
 bc (yR (fun p:Nat × SE=>Nat.blt p.1 100000) σ && wT (lk σ) s.tr tr && cnT fa σ s.fa) (oc (rrE fa σ s.v) (fun v=>oc (wrT fa σ s.wr tr) (fun tr'=>some ⟨oM c (stO fa st s.st),.arr t c.N 13 z tr',oK c (.i .i64 s.u),v⟩) none) none) none
def Xm.app (c:XC) (s:Xm) (l:List V) (h:H) (fa:Fa):Option XR:=
 bc (jG l s.l) (bc (zbx h c.m && zbx h c.id && zbx h c.kp && yR (fun p:Ev.P × O=>zbx h p.1 && za9 (yb h p.1) (some p.2)) c.fix) (oc (yb h c.m) (fun o=>memO o (fun tm id n n' st=>bc (Nat.beq tm c.tM && pEq id c.id && Nat.beq n c.N && Nat.beq n' c.N) (oc (yb h c.id) (fun oi=>arrO oi (fun ta n2 d z tr=>
  bc (Nat.beq ta c.tA && Nat.beq n2 c.N && Nat.beq d 13 && V.beq z w0) (oc (yb h c.kp) (fun ok=>celO ok (fun tk l=>bc (Nat.beq tk c.tK) (oc (zqj c.kc l) (fun u=>oc (rdT z tr s.rd [(6,u),(5,st)]) (fun σ=>s.app2 c fa ta z tr st σ) none) none) none) none) none) none) none) none) none) none) none) none) none
def xmTry (c:XC) (ss:List Xm) (l:List V) (h:H) (fa:Fa) (k:K) (e:Nat):Nat:=
 yB e (fun s _ ih=>oc (s.app c l h fa) (fun x=>x.go (fun om oi ok v=>hc h (fun n lo t=>zax c.kp t ok (fun t=>zax c.id t oi (fun t=>zax c.m t om (fun t=>k v ⟨n,lo,t⟩ fa)))))) ih) ss
def zoB (c:XC) (ss:List V->List Xm) (F:Nat) (call:zD):List V->H->Fa->K->Nat:=fun l h fa k=>xmTry c (ss l) l h fa k (call F l h fa k)
--@XM
theorem celO_ok {β:Type} {o:O} {f:TypeId->List V->Option β} {r:β} (h:celO o f none=some r):∃ t l,o=.cells t l/\f t l=some r:=by
 unfold celO at h
 split at h
 ·exact⟨_,_,rfl,h⟩
 ·cases h
theorem znS:∀ {a l:List V} {u:SE},zqj a l=some u->∃ x,l=a ++ [x]/\∀ E ρ,x.γ E ρ=.int .i64 (u.den E)
 | [],[x],u,h=>by
  obtain⟨k,e,h1,hx⟩:=zoE (show vIK x (fun k e=>bc (kEq .i64 k) (some e) none) none=some u from h)
  obtain⟨hk,h2⟩:=jO h1
  have hk':=yo hk
  subst hk'
  have h3:=Option.some.inj h2
  subst h3
  exact⟨x,rfl,hx⟩
 | [],[],u,h=>by cases h
 | [],_::_::_,u,h=>by cases h
 | _::_,[],u,h=>by cases h
 | a::r,b::s,u,h=>by
  obtain⟨h1,h2⟩:=jO (show bc (V.beq a b) (zqj r s) none=some u from h)
  obtain⟨x,h3,h4⟩:=znS h2
  exact⟨x,by rw[V.beq_ok h1,h3];rfl,h4⟩
theorem zo5 {z:V} {tr:Tr V} {x:Nat}:∀ {l:List (Nat × Nat)} {σ σ':Sl},(∀ p∈l,p.2≠x)->rdT z tr l σ=some σ'->∀ st,lk σ x=some st->lk σ' x=some st
 | [],σ,σ',_,h,st,h5=>by
  have h:some σ=some σ':=h
  cases h;exact h5
 | (a,s)::r,σ,σ',hne,h,st,h5=>by
  have h:vIK (oc (tr.get 13 a) (fun v=>v) z) (fun k e=>bc (kEq .u64 k) (rdT z tr r ((s,e)::σ)) none) none=some σ':=h
  have key:∀ k e,bc (kEq .u64 k) (rdT z tr r ((s,e)::σ)) none=some σ'->lk σ' x=some st:=fun k e h=>by
   obtain⟨_,h⟩:=jO h
   refine zo5 (fun p hp=>hne p (List.mem_cons_of_mem _ hp)) h st ?_
   show bc (Nat.beq x s) (some e) (lk σ x)=some st
   have:Nat.beq x s=false:=by
    rw[Bool.eq_false_iff]
    intro hh
    have hh:x=s:=by simpa using hh
    exact hne (a,s) (List.mem_cons_self ..) hh.symm
   rw[this];exact h5
  revert h
  generalize oc (tr.get 13 a) (fun v=>v) z=y
  intro h
  cases y <;> first | (cases h;done) | exact key _ _ h
theorem wrA_ok {fa:Fa} (hf:FaOk E fa) {σ:Sl} (hσ:∀ i u,lk σ i=some u->u.den E=E'.i i) (ρ ρ':Rho) {z:V} {N:Nat} (hN:N<=8192) :
  ∀ (l:List (Nat × RS)) (T tr tr':Tr V),(∀ q∈l,q.1<8192)->wrT fa σ l tr=some tr'->(∀ i,i<N->(yl tr 13 z i).γ E ρ=(yl T 13 z i).γ E' ρ')->∀ i,i<N->(yl tr' 13 z i).γ E ρ=(yl (trWr T l) 13 z i).γ E' ρ'
 | [],T,tr,tr',_,h,ho=>by
  have h:=Option.some.inj h
  subst h
  exact ho
 | (a,v)::l,T,tr,tr',hl,h,ho=>by
  obtain⟨u,h1,h⟩:=yZ (show oc (rsE fa σ v) (fun u=>zaN tr 13 a u (fun tr=>wrT fa σ l tr)) none=some tr' from h)
  rw[zam]at h
  have ha:a<8192:=hl _ (List.mem_cons_self ..)
  obtain⟨g1,_⟩:=zfC hf hσ ρ ρ' v u h1
  refine wrA_ok hf hσ ρ ρ' hN l (T.set 13 a v.v) _ tr' (fun q hq=>hl q (List.mem_cons_of_mem _ hq)) h fun i hi=>?_
  have h2:=ho i hi
  unfold yl at h2 ⊢
  rw[Tr.get_set 13 _ _ _ _ ha (by show i<8192;omega),Tr.get_set 13 _ _ _ _ ha (by show i<8192;omega)]
  by_cases e:i=a
  ·rw[if_pos e,if_pos e]
   exact g1
  ·rw[if_neg e,if_neg e]
   exact h2
theorem zp6 {p:Ev.P} {o:O}:∀ {l:List (Ev.P × O)},(ptL l).get p=some o->(p,o)∈l
 | [],h=>by rw[show ptL []=.e from rfl,PT.get_e]at h;cases h
 | (q,u)::r,h=>by
  have h:((ptL r).set q u).get p=some o:=h
  by_cases e:p=q
  ·subst e
   rw[PT.get_set_same]at h
   rw[Option.some.inj h]
   exact List.mem_cons_self ..
  ·rw[PT.get_set_other _ _ _ _ (fun h=>e h.symm)]at h
   exact List.mem_cons_of_mem _ (zp6 h)
theorem ziV {c:XC} {s:Xm} {p:Ev.P} {o:O} (h:(hX c s).t.get p=some o):(p=c.m/\o=oM c (.si .i64 (.v 5)))\/(p=c.id/\o=.arr c.tA c.N 13 w0 s.tr)\/(p=c.kp/\o=oK c (.si .i64 (.v 6)))\/(p,o)∈c.fix:=by
 have h:((((ptL c.fix).set c.kp (oK c (.si .i64 (.v 6)))).set c.id (.arr c.tA c.N 13 w0 s.tr)).set c.m (oM c (.si .i64 (.v 5)))).get p=some o:=h
 by_cases e:p=c.m
 ·subst e
  rw[PT.get_set_same]at h
  exact .inl ⟨rfl,(Option.some.inj h).symm⟩
 rw[PT.get_set_other _ _ _ _ (fun h=>e h.symm)]at h
 by_cases e2:p=c.id
 ·subst e2
  rw[PT.get_set_same]at h
  exact .inr (.inl ⟨rfl,(Option.some.inj h).symm⟩)
 rw[PT.get_set_other _ _ _ _ (fun h=>e2 h.symm)]at h
 by_cases e3:p=c.kp
 ·subst e3
  rw[PT.get_set_same]at h
  exact .inr (.inr (.inl ⟨rfl,(Option.some.inj h).symm⟩))
 rw[PT.get_set_other _ _ _ _ (fun h=>e3 h.symm)]at h
 exact .inr (.inr (.inr (zp6 h)))
def H.three (c:XC) (h:H) (x:XR):H:=⟨h.n,h.lo,((h.t.set c.kp x.ok).set c.id x.oi).set c.m x.om⟩
theorem zqQ {c:XC} {h:H} {x:XR} {p:Ev.P} {o:O} (hg:(h.three c x).t.get p=some o):(p=c.m/\o=x.om)\/(p=c.id/\o=x.oi)\/(p=c.kp/\o=x.ok)\/(p≠c.m/\p≠c.id/\p≠c.kp/\h.t.get p=some o):=by
 have hg:(((h.t.set c.kp x.ok).set c.id x.oi).set c.m x.om).get p=some o:=hg
 by_cases e:p=c.m
 ·subst e
  rw[PT.get_set_same]at hg
  exact .inl ⟨rfl,(Option.some.inj hg).symm⟩
 rw[PT.get_set_other _ _ _ _ (fun h=>e h.symm)]at hg
 by_cases e2:p=c.id
 ·subst e2
  rw[PT.get_set_same]at hg
  exact .inr (.inl ⟨rfl,(Option.some.inj hg).symm⟩)
 rw[PT.get_set_other _ _ _ _ (fun h=>e2 h.symm)]at hg
 by_cases e3:p=c.kp
 ·subst e3
  rw[PT.get_set_same]at hg
  exact .inr (.inr (.inl ⟨rfl,(Option.some.inj hg).symm⟩))
 rw[PT.get_set_other _ _ _ _ (fun h=>e3 h.symm)]at hg
 exact .inr (.inr (.inr ⟨e,e2,e3,hg⟩))
theorem zje {c:XC} {h:H} {x:XR} {p:Ev.P} (e:p≠c.m) (e2:p≠c.id) (e3:p≠c.kp):(h.three c x).t.get p=h.t.get p:=by
 show (((h.t.set c.kp x.ok).set c.id x.oi).set c.m x.om).get p=h.t.get p
 rw[PT.get_set_other _ _ _ _ (fun h=>e h.symm),PT.get_set_other _ _ _ _ (fun h=>e2 h.symm),PT.get_set_other _ _ _ _ (fun h=>e3 h.symm)]
theorem fix_is {c:XC} {o:O} {n0:Ev.P} {ρ ρ2:Rho} {L:Pl} {hp:Array Obj} (hf:o.fixB n0=true) (ha:∀ i:Ev.P,i.toNat<n0.toNat->ρ2 i=ρ i) (h:o.Is E ρ2 L hp):o.Is E' ρ L hp:=by
 cases o <;> first | (cases hf;done) | skip
 rename_i t l
 have hf:(zcg l && zcb n0 l)=true:=hf
 simp only[Bool.and_eq_true]at hf
 have h:hp[L.b]? = some (.cells (γL E ρ2 l).toArray t (0,0)):=h
 show hp[L.b]? = some (.cells (γL E' ρ l).toArray t (0,0))
 rw[h,γL_agree E ha l (zbf l hf.2),zde (E:=E) (E':=E') ρ hf.1]
theorem Xm.app_run {c:XC} {s:Xm} {F:Nat} {ze:zD} (hcall:∀ E':Env,(∀ q,q≠7->E'.s q=E.s q)->zf E' P ze) (hcw:c.wf=true) (hwf:s.wf c=true) (hr:s.run c F ze=0) {l:List V} {h:H} {fa:Fa} {x:XR}
  (ha:s.app c l h fa=some x) (hfa:FaOk E fa) :
  yE P F/\x.v.bd 0/\∀ ρ w,Sat E ρ h w->Calls P F (γL E ρ l).toArray w fun e w'=>e=.returned (x.v.γ E ρ)/\Sat E ρ (h.three c x) w'/\Ext ρ h w ρ (h.three c x) w':=by
 unfold Xm.app at ha
 obtain⟨hl,ha1⟩:=jO ha
 obtain⟨hmm,ha2⟩:=jO ha1
 simp only[Bool.and_eq_true]at hmm
 obtain⟨⟨⟨hm1,hm2⟩,hm3⟩,hfix⟩:=hmm
 obtain⟨om0,hom,ha3⟩:=yZ ha2
 rw[zH]at hom
 obtain⟨tm,id,n,n',stv,st,e0,ha4,hst⟩:=ziE ha3
 obtain⟨hb,ha5⟩:=jO ha4
 simp only[Bool.and_eq_true,Nat.beq_eq]at hb
 obtain⟨⟨⟨e1,eid⟩,e2⟩,e3⟩:=hb
 have eid:=jt eid
 obtain⟨oi0,hoi,ha6⟩:=yZ ha5
 rw[zH]at hoi
 obtain⟨ta,n2,d,z,tr,e4,ha7⟩:=zi7 ha6
 obtain⟨hb,ha8⟩:=jO ha7
 simp only[Bool.and_eq_true,Nat.beq_eq]at hb
 obtain⟨⟨⟨e5,e6⟩,e7⟩,ez⟩:=hb
 have ez:=V.beq_ok ez
 obtain⟨ok0,hok,ha9⟩:=yZ ha8
 rw[zH]at hok
 obtain⟨tk,kl,e8,ha10⟩:=celO_ok ha9
 obtain⟨e9,ha11⟩:=jO ha10
 have e9:tk=c.tK:=by simpa using e9
 obtain⟨u,hu,ha12⟩:=yZ ha11
 obtain⟨xu,e10,hxu⟩:=znS hu
 obtain⟨σ,hσ,hb0⟩:=yZ ha12
 clear ha ha1 ha2 ha3 ha4 ha5 ha6 ha7 ha8 ha9 ha10 ha11 ha12
 have hl:=zaj hl
 subst hl e0 e1 eid e2 e3 e4 e5 e6 e7 e8 e9 e10 ez
 unfold Xm.app2 at hb0
 obtain⟨hsT,hb1⟩:=jO hb0
 simp only[Bool.and_eq_true]at hsT
 obtain⟨⟨hkey,hwT⟩,hcn⟩:=hsT
 obtain⟨v,hv,hb2⟩:=yZ hb1
 obtain⟨tr',htr',hb3⟩:=yZ hb2
 have hb4:=Option.some.inj hb3
 clear hb0 hb1 hb2 hb3
 subst hb4
 unfold XC.wf at hcw
 simp only[Bool.and_eq_true]at hcw
 obtain⟨⟨⟨⟨⟨⟨hN,w1⟩,w2⟩,w3⟩,w4⟩,w5⟩,w6⟩:=hcw
 have hN:c.N<=8192:=by simpa using hN
 have w1:c.m.toNat<c.n0.toNat:=by simpa [pLt] using w1
 have w2:c.id.toNat<c.n0.toNat:=by simpa [pLt] using w2
 have w3:c.kp.toNat<c.n0.toNat:=by simpa [pLt] using w3
 have w6:∀ q∈c.fix,q.1.toNat<c.n0.toNat/\q.2.fixB c.n0=true:=fun q hq=>by
  have:=jP w6 q hq
  simp only[Bool.and_eq_true]at this
  exact⟨by simpa [pLt] using this.1,this.2⟩
 unfold Xm.wf at hwf
 simp only[Bool.and_eq_true]at hwf
 obtain⟨⟨⟨⟨hll,hlb⟩,hbt⟩,hrd⟩,hwr⟩:=hwf
 have hrd:∀ q∈s.rd,6<q.2:=fun q hq=>by simpa using jP hrd q hq
 have hwr:∀ q∈s.wr,q.1<c.N:=fun q hq=>by simpa using jP hwr q hq
 have hfix:∀ q∈c.fix,h.lo.toNat<=q.1.toNat/\h.t.get q.1=some q.2:=fun q hq=>by
  have:=jP hfix q hq
  simp only[Bool.and_eq_true]at this
  have h2:=jT this.2
  rw[zH]at h2
  exact⟨yL h q.1 this.1,h2⟩
 have t:=zqD (E:=E) hkey
 obtain⟨E',hE'⟩:∃ E',E'=zeT E σ:=⟨_,rfl⟩
 rw[<- hE']at t
 have hc:=hcall E' (fun q _=>by rw[hE'];rfl)
 have hlk:∀ i u,lk σ i=some u->u.den E=E'.i i:=fun i u h=>(t.i i u h).symm
 obtain⟨hcall1,v0,h0,fa0,hk0,_,hrun⟩:=hc _ _ _ _ _ hr (zpx hfa hlk hcn)
 have hbv:v.bd 0:=(zir hfa hlk (fun _=>⟨0,0⟩) (fun _=>⟨0,0⟩) s.v v hv).2
 have h6:E'.i 6=u.den E:=t.i 6 u (zo5 (fun p hp=>by have:=hrd p hp;omega) hσ u rfl)
 have h5:E'.i 5=st.den E:=t.i 5 st (zo5 (fun p hp=>by have:=hrd p hp;omega) hσ st rfl)
 unfold Xm.ok at hk0
 obtain⟨q1,hk0⟩:=zn hk0 (by simp)
 obtain⟨q2,hk0⟩:=zn hk0 (by simp)
 obtain⟨q3,hk0⟩:=zn hk0 (by simp)
 obtain⟨q4,hk0⟩:=zn hk0 (by simp)
 obtain⟨q5,_⟩:=zn hk0 (by simp)
 have q1:=V.beq_ok q1
 have q2:=jT q2
 have q3:=jT q3
 have q4:=jT q4
 subst q1
 refine⟨hcall1,hbv,fun ρ w hs=>?_⟩
 obtain⟨hn13,cs,hcs,hsz,hcell⟩:=hs.obj c.id _ hoi
 have hmem:=hs.obj c.m _ hom
 have hmem:w.heap[(ρ c.m).b]? = some (.cells #[.slice (some ⟨(ρ c.id).b,0,none⟩) c.N c.N,stv.γ E ρ] c.tM (0,0)):=hmem
 have hker:=hs.obj c.kp _ hok
 have hker:w.heap[(ρ c.kp).b]? = some (.cells (γL E ρ (c.kc ++ [xu])).toArray c.tK (0,0)):=hker
 -- which things of h the pattern's are
 have there:∀ p o,(hX c s).t.get p=some o->∃ o0,h.t.get p=some o0/\o0.mine=true/\h.lo.toNat<=p.toNat:=by
  intro p o hp
  rcases ziV hp with ⟨rfl,_⟩ | ⟨rfl,_⟩ | ⟨rfl,_⟩ | hm
  ·exact⟨_,hom,rfl,yL h _ hm1⟩
  ·exact⟨_,hoi,rfl,yL h _ hm2⟩
  ·exact⟨_,hok,rfl,yL h _ hm3⟩
  ·obtain⟨g1,g2⟩:=hfix _ hm
   refine⟨o,g2,?_,g1⟩
   have:=(w6 _ hm).2
   cases o <;> first | rfl | (cases this;done)
 have hsat:Sat E' ρ (hX c s) w:=by
  refine⟨fun p o hp=>?_,fun p q o o' hp hq _ _ hh=>?_,fun p o hp=>?_⟩
  ·rcases ziV hp with ⟨rfl,rfl⟩ | ⟨rfl,rfl⟩ | ⟨rfl,rfl⟩ | hm
   ·show w.heap[(ρ c.m).b]? = some (.cells (γL E' ρ [.sl c.id 0 c.N c.N,.si .i64 (.v 5)]).toArray c.tM (0,0))
    rw[hmem]
    simp only[γL,V.γ,SE.den,h5,hst]
   ·refine⟨by omega,cs,hcs,hsz,fun i hi=>?_⟩
    rw[hcell i hi,zgx t ρ ρ 13 i hwT]
   ·show w.heap[(ρ c.kp).b]? = some (.cells (γL E' ρ (c.kc ++ [.si .i64 (.v 6)])).toArray c.tK (0,0))
    rw[hker,γL_append,γL_append,zde (E:=E) (E':=E') ρ w4]
    simp only[γL,V.γ,SE.den,h6,hxu]
   ·exact fix_is (c:=c) (w6 _ hm).2 (fun _ _=>rfl) (hs.obj p o (hfix _ hm).2)
  ·obtain⟨o1,g1,g2,_⟩:=there p o hp
   obtain⟨o2,g3,g4,_⟩:=there q o' hq
   exact hs.inj p q o1 o2 g1 g3 g2 (yz g4) hh
  ·rcases ziV hp with ⟨rfl,rfl⟩ | ⟨rfl,rfl⟩ | ⟨rfl,rfl⟩ | hm
   ·exact⟨w1,w2,trivial,trivial⟩
   ·exact⟨w2,trivial,fun i v1 hi hv1=>bd_mono (Nat.zero_le _) v1 (zhI 13 i v1 hbt hv1)⟩
   ·exact⟨w3,zdm (zbf c.kc w5) ⟨trivial,trivial⟩⟩
   ·obtain⟨g1,g2⟩:=w6 _ hm
    refine⟨g1,?_⟩
    cases o <;> first | (cases g2;done) | skip
    rename_i t1 l1
    have g2:(zcg l1 && zcb c.n0 l1)=true:=g2
    simp only[Bool.and_eq_true]at g2
    exact zbf l1 g2.2
 have hγ:γL E' ρ s.l=γL E ρ s.l:=zde (E:=E') (E':=E) ρ hll
 have hrun:=hrun ρ w (zbf s.l hlb) hsat
 rw[hγ]at hrun
 refine hrun.mono ?_
 rintro e w' ⟨ρ2,he,hs',hx',_⟩
 have ag:∀ i:Ev.P,i.toNat<c.n0.toNat->ρ2 i=ρ i:=fun i hi=>hx'.agree i hi
 refine⟨by rw[he,(zir hfa hlk ρ ρ2 s.v v hv).1],?_⟩
 have i1:=hs'.obj c.id _ q2
 have i2:=hs'.obj c.m _ q3
 have i3:=hs'.obj c.kp _ q4
 rw[ag _ w2]at i1
 rw[ag _ w1]at i2
 rw[ag _ w3]at i3
 obtain⟨_,cs',k1,k2,k4⟩:=i1
 refine sat_upd hs rfl rfl (fun p=>p=c.m\/p=c.id\/p=c.kp\/∃ o,(p,o)∈c.fix) ?_ ?_ ?_ hx'.os hx'.tape hx'.output hx'.size ?_
 ·rintro p (rfl | rfl | rfl | ⟨o,hm⟩)
  ·exact⟨_,hom,rfl,yL h _ hm1⟩
  ·exact⟨_,hoi,rfl,yL h _ hm2⟩
  ·exact⟨_,hok,rfl,yL h _ hm3⟩
  ·obtain⟨g1,g2⟩:=hfix _ hm
   refine⟨o,g2,?_,g1⟩
   have:=(w6 _ hm).2
   cases o <;> first | rfl | (cases this;done)
 ·intro p o hp
  rcases zqQ hp with ⟨rfl,rfl⟩ | ⟨rfl,rfl⟩ | ⟨rfl,rfl⟩ | ⟨n1,n2,n3,hp⟩
  ·refine .inl ⟨.inl rfl,?_,?_⟩
   ·show w'.heap[(ρ c.m).b]? = some (.cells (γL E ρ [.sl c.id 0 c.N c.N,stO fa st s.st]).toArray c.tM (0,0))
    have i2:w'.heap[(ρ c.m).b]? = some (.cells (γL E' ρ2 [.sl c.id 0 c.N c.N,.si .i64 (stP s.st)]).toArray c.tM (0,0)):=i2
    rw[i2]
    have:(stO fa st s.st).γ E ρ=V.γ E' ρ2 (.si .i64 (stP s.st)):=by
     unfold stO stP
     cases Nat.beq s.st 0 with
     | true=>
      show (mkE .i64 st).γ E ρ=Value.int .i64 (E'.i 5)
      rw[(zbN _ _ _).1,h5]
     | false=>
      show (mkE .i64 (opS fa .add .i64 st (.lit s.st))).γ E ρ=Value.int .i64 (arS .add .i64 (E'.i 5) s.st)
      rw[(zbN _ _ _).1,ziA hfa,h5]
      rfl
    simp only[γL,this]
    simp only[V.γ,ag _ w2]
   ·refine⟨(hs.bd c.id _ hoi).1,?_,trivial⟩
    unfold stO
    cases Nat.beq s.st 0 with
    | true=>exact bd_mono (Nat.zero_le _) _ (zbN (E:=E) _ _ ρ).2
    | false=>exact bd_mono (Nat.zero_le _) _ (zbN (E:=E) _ _ ρ).2
  ·refine .inl ⟨.inr (.inl rfl),?_,?_⟩
   ·refine⟨hn13,cs',k1,k2,fun i hi=>?_⟩
    rw[k4 i hi,<- wrA_ok hfa hlk ρ ρ2 (z:=w0) hN s.wr s.tr tr tr' (fun q hq=>by have:=hwr q hq;omega) htr' (fun i hi=>zgx t ρ ρ2 13 i hwT) i hi]
   ·have hb:=(hs.bd c.id _ hoi).2
    exact⟨hb.1,zoC hfa s.wr tr tr' (fun q hq=>by have:=hwr q hq;omega) htr' hb.2⟩
  ·refine .inl ⟨.inr (.inr (.inl rfl)),?_,?_⟩
   ·show w'.heap[(ρ c.kp).b]? = some (.cells (γL E ρ (c.kc ++ [.i .i64 s.u])).toArray c.tK (0,0))
    have i3:w'.heap[(ρ c.kp).b]? = some (.cells (γL E' ρ2 (c.kc ++ [.i .i64 s.u])).toArray c.tK (0,0)):=i3
    rw[i3,γL_append,γL_append,γL_agree E' ag c.kc (zbf c.kc w5),zde (E:=E') (E':=E) ρ w4]
    rfl
   ·have hb:=(hs.bd c.kp _ hok).2
    refine zdm ?_ ⟨trivial,trivial⟩
    have hb:bdL h.n.toNat (c.kc ++ [xu]):=hb
    rw[yk]at hb ⊢
    exact fun v1 hv1=>hb v1 (List.mem_append_left _ hv1)
  ·by_cases hf:∃ o',(p,o')∈c.fix
   ·obtain⟨o',hm⟩:=hf
    have g:=(hfix _ hm).2
    have e:o'=o:=Option.some.inj (g.symm.trans hp)
    subst e
    have hq:=jT (jP q5 _ hm)
    have:=hs'.obj p o' hq
    rw[ag _ (w6 _ hm).1]at this
    exact .inl ⟨.inr (.inr (.inr ⟨o',hm⟩)),fix_is (c:=c) (w6 _ hm).2 ag this,(hs.bd p o' hp).2⟩
   ·refine .inr ⟨?_,hp⟩
    rintro (e | e | e | e)
    ·exact n1 e
    ·exact n2 e
    ·exact n3 e
    ·exact hf e
 ·intro p hp
  exact zje (fun e=>hp (.inl e)) (fun e=>hp (.inr (.inl e))) (fun e=>hp (.inr (.inr (.inl e))))
 ·intro b hb hn
  refine hx'.keep b hb fun p o hp _ _=>?_
  intro e
  refine hn p ?_ e.symm
  rcases ziV hp with ⟨rfl,_⟩ | ⟨rfl,_⟩ | ⟨rfl,_⟩ | hm
  ·exact .inl rfl
  ·exact .inr (.inl rfl)
  ·exact .inr (.inr (.inl rfl))
  ·exact .inr (.inr (.inr ⟨o,hm⟩))
def XmOk (c:XC) (F:Nat) (ze:zD) (s:Xm):Prop:=s.wf c=true/\s.run c F ze=0
theorem xmh_ok {c:XC} {F:Nat} {ze call:zD} {ss:List V->List Xm} (hcw:c.wf=true) (hcall0:∀ E':Env,(∀ q,q≠7->E'.s q=E.s q)->zf E' P ze) (hcall:zf E P call) (hss:∀ l,∀ s∈ss l,XmOk c F ze s) :
  zf E P (fun G l h fa k=>bc (Nat.beq G F) (zoB c ss F call l h fa k) (call G l h fa k)):=by
 intro G l h fa k hk hfa
 have hk:bc (Nat.beq G F) (zoB c ss F call l h fa k) (call G l h fa k)=0:=hk
 cases hG:Nat.beq G F with
 | false=>rw[hG]at hk;exact hcall _ _ _ _ _ hk hfa
 | true=>
 rw[hG]at hk
 have hG:G=F:=by simpa using hG
 subst hG
 have hk:xmTry c (ss l) l h fa k (call G l h fa k)=0:=hk
 have hs:=hss l
 generalize ss l=L at hk hs
 induction L with
 | nil=>exact hcall _ _ _ _ _ (show call G l h fa k=0 from hk) hfa
 | cons s r ih=>
  have hk:oc (s.app c l h fa) (fun x=>x.go (fun om oi ok v=>hc h (fun n lo t=>zax c.kp t ok (fun t=>zax c.id t oi (fun t=>zax c.m t om (fun t=>k v ⟨n,lo,t⟩ fa)))))) (xmTry c r l h fa k (call G l h fa k))=0:=hk
  cases ha:s.app c l h fa with
  | none=>
   rw[ha]at hk
   exact ih hk (fun s hm=>hs s (List.mem_cons_of_mem _ hm))
  | some x=>
   rw[ha]at hk
   obtain⟨g1,g2⟩:=hs s (List.mem_cons_self ..)
   obtain⟨hca,hbv,hrun⟩:=Xm.app_run hcall0 hcw g1 g2 ha hfa
   cases x with
   | mk om oi ok v=>
   have hk:hc h (fun n lo t=>zax c.kp t ok (fun t=>zax c.id t oi (fun t=>zax c.m t om (fun t=>k v ⟨n,lo,t⟩ fa))))=0:=hk
   rw[zac,zan,zan,zan]at hk
   refine⟨hca,v,h.three c ⟨om,oi,ok,v⟩,fa,hk,hfa,fun ρ w hb hs=>(hrun ρ w hs).mono ?_⟩
   rintro e w' ⟨he,hs',hx'⟩
   exact⟨ρ,he,hs',hx',bd_mono (Nat.zero_le _) v hbv⟩
end Go.Ev
end
