import Derived.Test.YtckgidiokbofiaaGreatDoorME5
import Derived.Test.YtckgidiokbofiaaGreatDoorME4
set_option linter.unusedSimpArgs false
set_option linter.unusedVariables false
noncomputable section
namespace Go.Ev
open Go
variable {E E':Env} {P:Program}
def w0:V:=.i .u64 0
structure Wm where
 rd:List (Nat × Nat)
 tr:Tr V
 v:Int
 st:Nat
def hWm (c:MC) (s:Wm):H:=⟨.i .h,.h,((PT.e:PT O).set .h (.arr c.tA c.N 13 w0 s.tr)).set (.o .h) (.cells c.tM [.sl .h 0 c.N c.N,.si .i64 (.v 5)])⟩
def Wm.ok (c:MC) (s:Wm):K:=fun v h _=>bc (V.beq v (.i .i64 s.v)) (bc (zaH (h.t.get .h) (some (.arr c.tA c.N 13 w0 s.tr))) (bc (zaH (h.t.get (.o .h)) (some (.cells c.tM [.sl .h 0 c.N c.N,.si .i64 (stP s.st)]))) 0 1) 1) 1
def Wm.run (c:MC) (F:Nat) (s:Wm) (call:zy):Nat:=call F [.ptr (.o .h) 0] (hWm c s) ⟨[],[]⟩ (s.ok c)
def wV (σ:Sg) (p u:V):Bool:=vIK p (fun k e=>vIK u (fun k' e'=>kEq k k' && mE σ e e') false) false
def wN (σ:Sg):Tr V->Bool
 | .nil=>true
 | .leaf a=>wV σ a w0
 | .node l r=>wN σ l && wN σ r
def wM (σ:Sg):Tr V->Bool
 | .nil=>true
 | .leaf a=>wV σ w0 a
 | .node l r=>wM σ l && wM σ r
def wT (σ:Sg):Tr V->Tr V->Bool
 | .nil,b=>wM σ b
 | .leaf a,.nil=>wV σ a w0
 | .leaf a,.leaf b=>wV σ a b
 | .leaf _,.node _ _=>false
 | .node l r,.nil=>wN σ l && wN σ r
 | .node _ _,.leaf _=>false
 | .node l r,.node l' r'=>wT σ l l' && wT σ r r'
theorem vIB_ok {x:V} {f:IntKind->SE->Bool} (h:vIK x f false=true):∃ k e,f k e=true/\∀ E ρ,x.γ E ρ=.int k (e.den E):=by
 cases x <;> first | (cases h;done) | skip
 ·exact⟨_,_,h,fun E ρ=>rfl⟩
 ·exact⟨_,_,h,fun E ρ=>rfl⟩
theorem wV_ok {σ:Sg} (t:TrE σ E E') {p u:V} (h:wV σ p u=true) (ρ ρ':Rho):u.γ E ρ=p.γ E' ρ':=by
 obtain⟨k,e,h1,g1⟩:=vIB_ok h
 obtain⟨k',e',h2,g2⟩:=vIB_ok h1
 simp only[Bool.and_eq_true]at h2
 rw[g1,g2,yn h2.1,zwu t h2.2]
theorem zvT {σ:Sg} (t:TrE σ E E') (ρ ρ':Rho):∀ {a:Tr V} (d i:Nat),wN σ a=true->w0.γ E ρ=(yH a d w0 i).γ E' ρ'
 | .nil,d,i,h=>by
  have:yH (.nil:Tr V) d w0 i=w0:=by unfold yH;rw[Tr.get_nil];rfl
  rw[this];rfl
 | .leaf x,d,i,h=>by
  cases d with
  | zero=>exact wV_ok t h ρ ρ'
  | succ d=>exact(rfl:w0.γ E ρ=w0.γ E' ρ')
 | .node l r,d,i,h=>by
  simp only[wN,Bool.and_eq_true]at h
  cases d with
  | zero=>exact(rfl:w0.γ E ρ=w0.γ E' ρ')
  | succ d=>
   rw[zaw]
   split
   ·exact zvT t ρ ρ' d _ h.1
   ·exact zvT t ρ ρ' d _ h.2
theorem wM_at {σ:Sg} (t:TrE σ E E') (ρ ρ':Rho):∀ {b:Tr V} (d i:Nat),wM σ b=true->(yH b d w0 i).γ E ρ=w0.γ E' ρ'
 | .nil,d,i,h=>by
  have:yH (.nil:Tr V) d w0 i=w0:=by unfold yH;rw[Tr.get_nil];rfl
  rw[this];rfl
 | .leaf x,d,i,h=>by
  cases d with
  | zero=>exact wV_ok t h ρ ρ'
  | succ d=>exact(rfl:w0.γ E ρ=w0.γ E' ρ')
 | .node l r,d,i,h=>by
  simp only[wM,Bool.and_eq_true]at h
  cases d with
  | zero=>exact(rfl:w0.γ E ρ=w0.γ E' ρ')
  | succ d=>
   rw[zaw]
   split
   ·exact wM_at t ρ ρ' d _ h.1
   ·exact wM_at t ρ ρ' d _ h.2
theorem zgf {σ:Sg} (t:TrE σ E E') (ρ ρ':Rho):∀ {a b:Tr V} (d i:Nat),wT σ a b=true->(yH b d w0 i).γ E ρ=(yH a d w0 i).γ E' ρ'
 | .nil,b,d,i,h=>by
  have e:yH (.nil:Tr V) d w0 i=w0:=by unfold yH;rw[Tr.get_nil];rfl
  rw[e]
  exact wM_at t ρ ρ' d i (by cases b <;> exact h)
 | .leaf a,.nil,d,i,h=>by
  have e:yH (.nil:Tr V) d w0 i=w0:=by unfold yH;rw[Tr.get_nil];rfl
  rw[e];exact zvT t ρ ρ' (a:=.leaf a) d i h
 | .leaf a,.leaf b,d,i,h=>by
  cases d with
  | zero=>exact wV_ok t h ρ ρ'
  | succ d=>exact(rfl:w0.γ E ρ=w0.γ E' ρ')
 | .leaf _,.node _ _,d,i,h=>by simp[wT]at h
 | .node l r,.nil,d,i,h=>by
  have e:yH (.nil:Tr V) d w0 i=w0:=by unfold yH;rw[Tr.get_nil];rfl
  rw[e];exact zvT t ρ ρ' (a:=.node l r) d i h
 | .node _ _,.leaf _,d,i,h=>by simp[wT]at h
 | .node l r,.node l' r',d,i,h=>by
  simp only[wT,Bool.and_eq_true]at h
  cases d with
  | zero=>exact(rfl:w0.γ E ρ=w0.γ E' ρ')
  | succ d=>
   rw[zaw,zaw]
   split
   ·exact zgf t ρ ρ' d _ h.1
   ·exact zgf t ρ ρ' d _ h.2
def wBd:Tr V->Bool
 | .nil=>true
 | .leaf a=>vIK a (fun _ _=>true) false
 | .node l r=>wBd l && wBd r
theorem zjc:∀ {a:Tr V} (d i:Nat) (v:V),wBd a=true->a.get d i=some v->v.bd 0
 | .nil,d,i,v,h,hg=>by rw[Tr.get_nil]at hg;cases hg
 | .leaf x,0,i,v,h,hg=>by
  have hg:some x=some v:=hg
  cases hg
  cases x <;> first | (cases h;done) | exact trivial
 | .leaf x,d+1,i,v,h,hg=>by rw[Tr.get_succ]at hg;cases hg
 | .node l r,0,i,v,h,hg=>by cases hg
 | .node l r,d+1,i,v,h,hg=>by
  simp only[wBd,Bool.and_eq_true]at h
  rw[Tr.get_succ]at hg
  have hg:(if i % 2=0 then l.get d (i / 2) else r.get d (i / 2))=some v:=hg
  split at hg
  ·exact zjc d _ v h.1 hg
  ·exact zjc d _ v h.2 hg
def Wm.app (c:MC) (s:Wm) (h:H) (fa:Fa) (m:Ev.P):Option AR:=
 bc (zaI h m) (oc (ya h m) (fun o=>memO o (fun tm id n n' st=>bc (Nat.beq tm c.tM && Nat.beq n c.N && Nat.beq n' c.N && zaI h id) (oc (ya h id) (fun oi=>arrO oi (fun ta n2 d z tr=>
  bc (Nat.beq ta c.tA && Nat.beq n2 c.N && Nat.beq d 13 && V.beq z w0) (oc (rdT z tr s.rd [(5,st)]) (fun σ=>bc (yP (fun p:Nat × SE=>Nat.blt p.1 100000) σ && wT (lk σ) s.tr tr) (some ⟨m,id,.cells c.tM [.sl id 0 n n,stO fa st s.st],.arr ta n2 13 z tr,.i .i64 s.v⟩) none) none) none) none) none) none) none) none) none
def zez (E:Env) (σ:Sl):Env:=⟨fun i=>match lk σ i with
 | some s=>s.den E
 | none=>0,E.b,E.s⟩
theorem lk_key:∀ {σ:Sl} {i:Nat} {s:SE},lk σ i=some s->∃ p∈σ,p.1=i
 | [],i,s,h=>by cases h
 | (j,e)::r,i,s,h=>by
  have h:bc (Nat.beq i j) (some e) (lk r i)=some s:=h
  cases hb:Nat.beq i j with
  | true => exact ⟨(j, e), List.mem_cons_self .., by have : i = j := by simpa using hb
                                                     exact this.symm⟩
  | false=>
   rw[hb]at h
   obtain⟨p,h1,h2⟩:=lk_key (σ:=r) h
   exact⟨p,List.mem_cons_of_mem _ h1,h2⟩
theorem zwS {σ:Sl} (hσ:yP (fun p:Nat × SE=>Nat.blt p.1 100000) σ=true):TrE (lk σ) E (zez E σ):=by
 refine⟨fun i s h=>by simp only[zez,h],rfl,fun q _=>⟨rfl,rfl,rfl,rfl,rfl,rfl,rfl,rfl⟩,fun q q' hq h=>?_⟩
 obtain⟨p,h1,h2⟩:=lk_key h
 have h3:=jA hσ p h1
 have h3:p.1<100000:=by simpa using h3
 omega
theorem zdF {c:MC} {s:Wm} {p:Ev.P} {o:O} (h:(hWm c s).t.get p=some o):(p=.h/\o=.arr c.tA c.N 13 w0 s.tr)\/(p=.o .h/\o=.cells c.tM [.sl .h 0 c.N c.N,.si .i64 (.v 5)]):=by
 have h:(((PT.e:PT O).set .h (.arr c.tA c.N 13 w0 s.tr)).set (.o .h) (.cells c.tM [.sl .h 0 c.N c.N,.si .i64 (.v 5)])).get p=some o:=h
 by_cases e:p=.o .h
 ·subst e
  rw[PT.get_set_same]at h
  exact .inr ⟨rfl,(Option.some.inj h).symm⟩
 ·rw[PT.get_set_other _ _ _ _ (fun h=>e h.symm)]at h
  by_cases e2:p=.h
  ·subst e2
   rw[PT.get_set_same]at h
   exact .inl ⟨rfl,(Option.some.inj h).symm⟩
  ·rw[PT.get_set_other _ _ _ _ (fun h=>e2 h.symm),PT.get_e]at h
   cases h
theorem rdT_5 {z:V} {tr:Tr V}:∀ {l:List (Nat × Nat)} {σ σ':Sl},(∀ p∈l,p.2≠5)->rdT z tr l σ=some σ'->∀ st,lk σ 5=some st->lk σ' 5=some st
 | [],σ,σ',_,h,st,h5=>by
  have h:some σ=some σ':=h
  cases h;exact h5
 | (a,s)::r,σ,σ',hne,h,st,h5=>by
  have h:vIK (oc (tr.get 13 a) (fun v=>v) z) (fun k e=>bc (kEq .u64 k) (rdT z tr r ((s,e)::σ)) none) none=some σ':=h
  have key:∀ k e,bc (kEq .u64 k) (rdT z tr r ((s,e)::σ)) none=some σ'->lk σ' 5=some st:=fun k e h=>by
   obtain⟨_,h⟩:=jr h
   refine rdT_5 (fun p hp=>hne p (List.mem_cons_of_mem _ hp)) h st ?_
   show bc (Nat.beq 5 s) (some e) (lk σ 5)=some st
   have:Nat.beq 5 s=false:=by
    rw[Bool.eq_false_iff]
    intro hh
    have hh:5=s:=by simpa using hh
    exact hne (a,s) (List.mem_cons_self ..) hh.symm
   rw[this];exact h5
  revert h
  generalize oc (tr.get 13 a) (fun v=>v) z=x
  intro h
  cases x <;> first | (cases h;done) | exact key _ _ h
theorem Wm.app_run {c:MC} {s:Wm} {F:Nat} {zc:zy} (hcall:∀ E':Env,(∀ q,q≠7->E'.s q=E.s q)->zi E' P zc) (hN:c.N<=8192) (hb:wBd s.tr=true) (h5:∀ p∈s.rd,p.2≠5) (hr:s.run c F zc=0) {m:Ev.P} {h:H} {fa:Fa} {x:AR}
  (ha:s.app c h fa m=some x) (hfa:FaOk E fa) :
  yl P F/\x.v.bd 0/\∀ ρ w,Sat E ρ h w->Calls P F (γL E ρ [.ptr m 0]).toArray w fun e w'=>e=.returned (x.v.γ E ρ)/\Sat E ρ (h.two x.m x.id x.om x.oi) w'/\Ext ρ h w ρ (h.two x.m x.id x.om x.oi) w':=by
 unfold Wm.app at ha
 obtain⟨hmm,ha2⟩:=jr ha
 obtain⟨om0,hom,ha3⟩:=yX ha2
 rw[zJ]at hom
 obtain⟨tm,id,n,n',stv,st,e0,ha4,hst⟩:=zlT ha3
 obtain⟨hb4,ha5⟩:=jr ha4
 simp only[Bool.and_eq_true,Nat.beq_eq]at hb4
 obtain⟨⟨⟨e1,e2⟩,e3⟩,hmi⟩:=hb4
 obtain⟨oi0,hoi,ha6⟩:=yX ha5
 rw[zJ]at hoi
 obtain⟨ta,n2,d,z,tr,e4,ha7⟩:=zml ha6
 obtain⟨hb7,ha8⟩:=jr ha7
 simp only[Bool.and_eq_true,Nat.beq_eq]at hb7
 obtain⟨⟨⟨e5,e6⟩,e7⟩,e8⟩:=hb7
 have e8:=V.beq_ok e8
 obtain⟨σ,hσ,ha9⟩:=yX ha8
 obtain⟨hb9,ha10⟩:=jr ha9
 simp only[Bool.and_eq_true]at hb9
 obtain⟨hkey,hwT⟩:=hb9
 have hx:=Option.some.inj ha10
 clear ha ha2 ha3 ha4 ha5 ha6 ha7 ha8 ha9 ha10
 subst e0 e1 e2 e3 e4 e5 e6 e7 e8
 subst hx
 have hne:m≠id:=by
  intro e
  subst e
  rw[hom]at hoi
  cases hoi
 have t:=zwS (E:=E) hkey
 have hc:=hcall (zez E σ) (fun q _=>rfl)
 obtain⟨hcall1,v0,h0,fa0,hk0,_,hrun⟩:=hc _ _ _ _ _ hr FaOk.nil
 unfold Wm.ok at hk0
 obtain⟨q1,hk0⟩:=zn hk0 (by simp)
 obtain⟨q2,hk0⟩:=zn hk0 (by simp)
 obtain⟨q3,_⟩:=zn hk0 (by simp)
 have q1:=V.beq_ok q1
 have q2:=jD q2
 have q3:=jD q3
 subst q1
 refine⟨hcall1,trivial,fun ρ w hs=>?_⟩
 obtain⟨hn13,cs,hcs,hsz,hcell⟩:=hs.obj id _ hoi
 have hmem:=hs.obj m _ hom
 have hmem:w.heap[(ρ m).b]? = some (.cells #[.slice (some ⟨(ρ id).b,0,none⟩) c.N c.N,stv.γ E ρ] c.tM (0,0)):=hmem
 have h5':(zez E σ).i 5=st.den E:=t.i 5 st (rdT_5 h5 hσ st rfl)
 obtain⟨ρ',hρ'⟩:∃ ρ':Rho,ρ'=fun p=>match p with | .h=>ρ id | _=>ρ m:=⟨_,rfl⟩
 have hρ1:ρ' .h=ρ id:=by rw[hρ']
 have hρ2:ρ' (.o .h)=ρ m:=by rw[hρ']
 have hsat:Sat (zez E σ) ρ' (hWm c s) w:=by
  refine⟨fun p o hp=>?_,fun p q o o' hp hq _ _ hh=>?_,fun p o hp=>?_⟩
  ·rcases zdF hp with ⟨rfl,rfl⟩ | ⟨rfl,rfl⟩
   ·rw[hρ1]
    refine⟨by omega,cs,hcs,hsz,fun i hi=>?_⟩
    rw[hcell i hi,zgf t ρ ρ' 13 i hwT]
   ·rw[hρ2]
    show w.heap[(ρ m).b]? = some (.cells (γL (zez E σ) ρ' [.sl .h 0 c.N c.N,.si .i64 (.v 5)]).toArray c.tM (0,0))
    rw[hmem]
    simp only[γL,V.γ,hρ1,SE.den,h5',hst]
  ·rcases zdF hp with ⟨rfl,rfl⟩ | ⟨rfl,rfl⟩ <;> rcases zdF hq with ⟨rfl,rfl⟩ | ⟨rfl,rfl⟩
   ·rfl
   ·rw[hρ1,hρ2]at hh
    exact absurd (hs.inj id m _ _ hoi hom rfl rfl hh).symm hne
   ·rw[hρ1,hρ2]at hh
    exact absurd (hs.inj m id _ _ hom hoi rfl rfl hh) hne
   ·rfl
  ·rcases zdF hp with ⟨rfl,rfl⟩ | ⟨rfl,rfl⟩
   ·exact⟨by show (1:Nat)<3;decide,trivial,fun i v hi hv=>bd_mono (Nat.zero_le _) v (zjc 13 i v hb hv)⟩
   ·exact⟨by show (2:Nat)<3;decide,by show (1:Nat)<3;decide,trivial,trivial⟩
 have hγ:γL (zez E σ) ρ' [.ptr (.o .h) 0]=γL E ρ [.ptr m 0]:=by
  simp only[γL,V.γ,hρ2]
 have hbd:bdL (hWm c s).n.toNat [.ptr (.o .h) 0]:=⟨by show (2:Nat)<3;decide,trivial⟩
 have hrun:=hrun ρ' w hbd hsat
 rw[hγ]at hrun
 refine hrun.mono ?_
 rintro e w' ⟨ρ2,he,hs',hx',_⟩
 have a1:ρ2 .h=ρ id:=by rw[hx'.agree .h (by show (1:Nat)<3;decide),hρ1]
 have a2:ρ2 (.o .h)=ρ m:=by rw[hx'.agree (.o .h) (by show (2:Nat)<3;decide),hρ2]
 refine⟨he,?_⟩
 have i1:=hs'.obj .h _ q2
 have i2:=hs'.obj (.o .h) _ q3
 rw[a1]at i1
 rw[a2]at i2
 obtain⟨_,cs',k1,k2,k3⟩:=i1
 refine zv2 hs hom hoi rfl rfl hne (yD h m hmm) (yD h id hmi) ?_ ?_ ?_ ?_ hx'.os hx'.tape hx'.output hx'.size ?_
 ·show w'.heap[(ρ m).b]? = some (.cells (γL E ρ [.sl id 0 c.N c.N,stO fa st s.st]).toArray c.tM (0,0))
  have i2:w'.heap[(ρ m).b]? = some (.cells (γL (zez E σ) ρ2 [.sl .h 0 c.N c.N,.si .i64 (stP s.st)]).toArray c.tM (0,0)):=i2
  rw[i2]
  have:(stO fa st s.st).γ E ρ=V.γ (zez E σ) ρ2 (.si .i64 (stP s.st)):=by
   unfold stO stP
   cases Nat.beq s.st 0 with
   | true=>
    show (mkE .i64 st).γ E ρ=Value.int .i64 ((zez E σ).i 5)
    rw[(zbx _ _ _).1,h5']
   | false=>
    show (mkE .i64 (opS fa .add .i64 st (.lit s.st))).γ E ρ=Value.int .i64 (arS .add .i64 ((zez E σ).i 5) s.st)
    rw[(zbx _ _ _).1,zlP hfa,h5']
    rfl
  simp only[γL,this]
  simp only[V.γ,a1]
 ·refine⟨hn13,cs',k1,k2,fun i hi=>?_⟩
  rw[k3 i hi,zgf t ρ ρ2 13 i hwT]
 ·refine⟨(hs.bd id _ hoi).1,?_,trivial⟩
  unfold stO
  cases Nat.beq s.st 0 with
  | true=>exact bd_mono (Nat.zero_le _) _ (zbx (E:=E) _ _ ρ).2
  | false=>exact bd_mono (Nat.zero_le _) _ (zbx (E:=E) _ _ ρ).2
 ·exact(hs.bd id _ hoi).2
 ·intro b hb n1 n2
  refine hx'.keep b hb fun p o hp _ _=>?_
  rcases zdF hp with ⟨rfl,rfl⟩ | ⟨rfl,rfl⟩
  ·rw[hρ1];exact fun e=>n2 e.symm
  ·rw[hρ2];exact fun e=>n1 e.symm
end Go.Ev
end
set_option linter.unusedSimpArgs false
set_option linter.unusedVariables false
noncomputable section
namespace Go.Ev
open Go
variable {E E':Env} {P:Program}
mutual
def V.litB:V->Bool
 | .b _=>true
 | .i _ _=>true
 | .ptr _ _=>true
 | .nil=>true
 | .sl _ _ _ _=>true
 | .vec _ _=>true
 | .vt _ _ _=>true
 | .snil=>true
 | .fnil=>true
 | .mnil=>true
 | .mp _=>true
 | .agg l=>zbY l
 | .tup l=>zbY l
 | _=>false
def zbY:List V->Bool
 | []=>true
 | v::r=>v.litB && zbY r
end
mutual
theorem lit_γ:∀ {v:V} (ρ:Rho),v.litB=true->v.γ E ρ=v.γ E' ρ
 | .b _,_,_=>rfl
 | .i _ _,_,_=>rfl
 | .ptr _ _,_,_=>rfl
 | .nil,_,_=>rfl
 | .sl _ _ _ _,_,_=>rfl
 | .vec _ _,_,_=>rfl
 | .vt _ _ _,_,_=>rfl
 | .snil,_,_=>rfl
 | .fnil,_,_=>rfl
 | .mnil,_,_=>rfl
 | .mp _,_,_=>rfl
 | .agg l,ρ,h=>by
  show Value.agg (γL E ρ l).toArray=Value.agg (γL E' ρ l).toArray
  rw[zc0 ρ (show zbY l=true from h)]
 | .tup l,ρ,h=>by
  show Value.tuple (γL E ρ l).toArray=Value.tuple (γL E' ρ l).toArray
  rw[zc0 ρ (show zbY l=true from h)]
 | .sb _,_,h=>by cases h
 | .si _ _,_,h=>by cases h
 | .fn _ _ _,_,h=>by cases h
 | .fs _ _,_,h=>by cases h
 | .fp _ _ _,_,h=>by cases h
 | .yd _,_,h=>by cases h
theorem zc0:∀ {l:List V} (ρ:Rho),zbY l=true->γL E ρ l=γL E' ρ l
 | [],_,_=>rfl
 | v::r,ρ,h=>by
  simp only[zbY,Bool.and_eq_true]at h
  show v.γ E ρ::γL E ρ r=v.γ E' ρ::γL E' ρ r
  rw[lit_γ ρ h.1,zc0 ρ h.2]
end
theorem γL_append (ρ:Rho):∀ (l m:List V),γL E ρ (l ++ m)=γL E ρ l ++ γL E ρ m
 | [],m=>rfl
 | v::r,m=>by show v.γ E ρ::γL E ρ (r ++ m)=v.γ E ρ::(γL E ρ r ++ γL E ρ m);rw[γL_append ρ r m]
theorem zae {n:Nat}:∀ {l m:List V},bdL n l->bdL n m->bdL n (l ++ m)
 | [],m,_,h=>h
 | v::r,m,h,h'=>⟨h.1,zae h.2 h'⟩
def O.fixB (n:Ev.P):O->Bool
 | .cells _ l=>zbY l && zbe n l
 | _=>false
theorem zv1 {ρ:Rho} {h h':H} {w w':World} (hs:Sat E ρ h w) (hn:h'.n=h.n) (hl:h'.lo=h.lo) (S:Ev.P->Prop) (hS:∀ p,S p->∃ o0,h.t.get p=some o0/\o0.mine=true/\h.lo.toNat<=p.toNat)
  (hg:∀ p o,h'.t.get p=some o->(S p/\o.Is E ρ (ρ p) w'.heap/\o.bd h.n.toNat)\/(¬ S p/\h.t.get p=some o)) (hk:∀ p,¬ S p->h'.t.get p=h.t.get p)
  (eos:w'.os=w.os) (etp:w'.tape=w.tape) (eou:w'.output=w.output) (esz:w.heap.size<=w'.heap.size) (ekp:∀ b,b<w.heap.size->(∀ p,S p->b≠(ρ p).b)->w'.heap[b]? = w.heap[b]?) :
  Sat E ρ h' w'/\Ext ρ h w ρ h' w':=by
 have orig:∀ p u,h'.t.get p=some u->u.live=true->∃ u0,h.t.get p=some u0/\u0.live=true:=by
  intro p u hp l1
  rcases hg p u hp with ⟨hs1,_,_⟩ | ⟨_,hp⟩
  ·obtain⟨o0,g1,g2,_⟩:=hS p hs1
   exact⟨o0,g1,yA g2⟩
  ·exact⟨u,hp,l1⟩
 have orig2:∀ p u,h'.t.get p=some u->u.mine=true->∃ u0,h.t.get p=some u0/\u0.mine=true:=by
  intro p u hp l1
  rcases hg p u hp with ⟨hs1,_,_⟩ | ⟨_,hp⟩
  ·obtain⟨o0,g1,g2,_⟩:=hS p hs1
   exact⟨o0,g1,g2⟩
  ·exact⟨u,hp,l1⟩
 refine⟨⟨fun p u hp=>?_,fun p q u u' hp hq l1 l2 hh=>?_,fun p u hp=>?_⟩,⟨by rw[hn];exact Nat.le_refl _,hl,fun _ _=>rfl,fun p u g1 g2=>?_,eos,etp,eou,esz,fun b hb hnb=>?_,fun p hp _=>?_,fun p u hp hg1 hl2=>orig p u hg1 hl2⟩⟩
 ·rcases hg p u hp with ⟨_,h1,_⟩ | ⟨n1,hp⟩
  ·exact h1
  ·exact O.Is_heap E (fun hlu=>ekp _ (hs.lt E hp hlu) (fun q hq e=>by
    obtain⟨o0,g1,g2,_⟩:=hS q hq
    have:=hs.inj q p o0 u g1 hp g2 hlu e.symm
    subst this
    exact n1 hq)) (hs.obj p u hp)
 ·obtain⟨u0,g1,k1⟩:=orig2 p u hp l1
  obtain⟨u1,g2,k2⟩:=orig q u' hq l2
  exact hs.inj p q u0 u1 g1 g2 k1 k2 hh
 ·rw[hn]
  rcases hg p u hp with ⟨h1,_,h3⟩ | ⟨n1,hp⟩
  ·obtain⟨o0,g1,_,_⟩:=hS p h1
   exact⟨(hs.bd p o0 g1).1,h3⟩
  ·exact hs.bd p u hp
 ·intro hl2
  exfalso
  obtain⟨u0,k1,_⟩:=orig p u g2 hl2
  exact absurd (hs.bd p u0 k1).1 (Nat.not_lt.2 g1)
 ·refine ekp b hb (fun p hp e=>?_)
  obtain⟨o0,g1,g2,g3⟩:=hS p hp
  exact hnb p o0 g1 (yA g2) g3 e.symm
 ·refine hk p (fun hp2=>?_)
  obtain⟨o0,g1,g2,g3⟩:=hS p hp2
  have hp:p.toNat<h.lo.toNat:=hp
  omega
structure XC where
 tA:Nat
 tM:Nat
 tK:Nat
 N:Nat
 n0:Ev.P
 m:Ev.P
 id:Ev.P
 kp:Ev.P
 kc:List V
 fix:List (Ev.P × O)
structure Xm where
 l:List V
 tr:Tr V
 rd:List (Nat × Nat)
 fa:List (SB × Bool)
 v:RR
 wr:List (Nat × RS)
 st:Nat
 u:Int
def ptL:List (Ev.P × O)->PT O
 | []=>.e
 | (p,o)::r=>(ptL r).set p o
def oK (c:XC) (v:V):O:=.cells c.tK (c.kc ++ [v])
def oM (c:XC) (v:V):O:=.cells c.tM [.sl c.id 0 c.N c.N,v]
def hX (c:XC) (s:Xm):H:=⟨c.n0,.h,(((ptL c.fix).set c.kp (oK c (.si .i64 (.v 6)))).set c.id (.arr c.tA c.N 13 w0 s.tr)).set c.m (oM c (.si .i64 (.v 5)))⟩
def Xm.ok (c:XC) (s:Xm):K:=fun v h _=>bc (V.beq v s.v.v) (bc (zaH (h.t.get c.id) (some (.arr c.tA c.N 13 w0 (trWr s.tr s.wr)))) (bc (zaH (h.t.get c.m) (some (oM c (.si .i64 (stP s.st))))) (bc (zaH (h.t.get c.kp) (some (oK c (.i .i64 s.u))))
 (bc (yP (fun p:Ev.P × O=>zaH (h.t.get p.1) (some p.2)) c.fix) 0 5) 4) 3) 2) 1
def Xm.run (c:XC) (F:Nat) (s:Xm) (call:zy):Nat:=call F s.l (hX c s) ⟨s.fa,[]⟩ (s.ok c)
def XC.wf (c:XC):Bool:=Nat.ble c.N 8192 && pLt c.m c.n0 && pLt c.id c.n0 && pLt c.kp c.n0 && zbY c.kc && zbe c.n0 c.kc && yP (fun p:Ev.P × O=>pLt p.1 c.n0 && p.2.fixB c.n0) c.fix
def Xm.wf (c:XC) (s:Xm):Bool:=zbY s.l && zbe c.n0 s.l && wBd s.tr && yP (fun p:Nat × Nat=>Nat.blt 6 p.2) s.rd && yP (fun p:Nat × RS=>Nat.blt p.1 c.N) s.wr
def zwx:List V->List V->Option SE
 | [],[x]=>vIK x (fun k e=>bc (kEq .i64 k) (some e) none) none
 | a::r,b::s=>bc (V.beq a b) (zwx r s) none
 | _,_=>none
def celO {σ:Type} (o:O) (f:TypeId->List V->σ) (e:σ):σ:=match o with
 | .cells t l=>f t l
 | _=>e
structure XR where
 om:O
 oi:O
 ok:O
 v:V
def XR.go {σ:Type} (x:XR) (f:O->O->O->V->σ):σ:=XR.rec (motive:=fun _=>σ) f x
def Xm.app2 (c:XC) (s:Xm) (fa:Fa) (t:TypeId) (z:V) (tr:Tr V) (st:SE) (σ:Sl):Option XR:=
 bc (yP (fun p:Nat × SE=>Nat.blt p.1 100000) σ && wT (lk σ) s.tr tr && cnT fa σ s.fa) (oc (rrE fa σ s.v) (fun v=>oc (wrT fa σ s.wr tr) (fun tr'=>some ⟨oM c (stO fa st s.st),.arr t c.N 13 z tr',oK c (.i .i64 s.u),v⟩) none) none) none
def Xm.app (c:XC) (s:Xm) (l:List V) (h:H) (fa:Fa):Option XR:=
 bc (yZ l s.l) (bc (zaI h c.m && zaI h c.id && zaI h c.kp && yP (fun p:Ev.P × O=>zaI h p.1 && zaH (ya h p.1) (some p.2)) c.fix) (oc (ya h c.m) (fun o=>memO o (fun tm id n n' st=>bc (Nat.beq tm c.tM && pEq id c.id && Nat.beq n c.N && Nat.beq n' c.N) (oc (ya h c.id) (fun oi=>arrO oi (fun ta n2 d z tr=>
  bc (Nat.beq ta c.tA && Nat.beq n2 c.N && Nat.beq d 13 && V.beq z w0) (oc (ya h c.kp) (fun ok=>celO ok (fun tk l=>bc (Nat.beq tk c.tK) (oc (zwx c.kc l) (fun u=>oc (rdT z tr s.rd [(6,u),(5,st)]) (fun σ=>s.app2 c fa ta z tr st σ) none) none) none) none) none) none) none) none) none) none) none) none) none
theorem zwW {β:Type} {o:O} {f:TypeId->List V->Option β} {r:β} (h:celO o f none=some r):∃ t l,o=.cells t l/\f t l=some r:=by
 unfold celO at h
 split at h
 ·exact⟨_,_,rfl,h⟩
 ·cases h
theorem ztX:∀ {a l:List V} {u:SE},zwx a l=some u->∃ x,l=a ++ [x]/\∀ E ρ,x.γ E ρ=.int .i64 (u.den E)
 | [],[x],u,h=>by
  obtain⟨k,e,h1,hx⟩:=zuK (show vIK x (fun k e=>bc (kEq .i64 k) (some e) none) none=some u from h)
  obtain⟨hk,h2⟩:=jr h1
  have hk':=yn hk
  subst hk'
  have h3:=Option.some.inj h2
  subst h3
  exact⟨x,rfl,hx⟩
 | [],[],u,h=>by cases h
 | [],_::_::_,u,h=>by cases h
 | _::_,[],u,h=>by cases h
 | a::r,b::s,u,h=>by
  obtain⟨h1,h2⟩:=jr (show bc (V.beq a b) (zwx r s) none=some u from h)
  obtain⟨x,h3,h4⟩:=ztX h2
  exact⟨x,by rw[V.beq_ok h1,h3];rfl,h4⟩
theorem zu9 {z:V} {tr:Tr V} {x:Nat}:∀ {l:List (Nat × Nat)} {σ σ':Sl},(∀ p∈l,p.2≠x)->rdT z tr l σ=some σ'->∀ st,lk σ x=some st->lk σ' x=some st
 | [],σ,σ',_,h,st,h5=>by
  have h:some σ=some σ':=h
  cases h;exact h5
 | (a,s)::r,σ,σ',hne,h,st,h5=>by
  have h:vIK (oc (tr.get 13 a) (fun v=>v) z) (fun k e=>bc (kEq .u64 k) (rdT z tr r ((s,e)::σ)) none) none=some σ':=h
  have key:∀ k e,bc (kEq .u64 k) (rdT z tr r ((s,e)::σ)) none=some σ'->lk σ' x=some st:=fun k e h=>by
   obtain⟨_,h⟩:=jr h
   refine zu9 (fun p hp=>hne p (List.mem_cons_of_mem _ hp)) h st ?_
   show bc (Nat.beq x s) (some e) (lk σ x)=some st
   have:Nat.beq x s=false:=by
    rw[Bool.eq_false_iff]
    intro hh
    have hh:x=s:=by simpa using hh
    exact hne (a,s) (List.mem_cons_self ..) hh.symm
   rw[this];exact h5
  revert h
  generalize oc (tr.get 13 a) (fun v=>v) z=y
  intro h
  cases y <;> first | (cases h;done) | exact key _ _ h
theorem wrA_ok {fa:Fa} (hf:FaOk E fa) {σ:Sl} (hσ:∀ i u,lk σ i=some u->u.den E=E'.i i) (ρ ρ':Rho) {z:V} {N:Nat} (hN:N<=8192) :
  ∀ (l:List (Nat × RS)) (T tr tr':Tr V),(∀ q∈l,q.1<8192)->wrT fa σ l tr=some tr'->(∀ i,i<N->(yH tr 13 z i).γ E ρ=(yH T 13 z i).γ E' ρ')->∀ i,i<N->(yH tr' 13 z i).γ E ρ=(yH (trWr T l) 13 z i).γ E' ρ'
 | [],T,tr,tr',_,h,ho=>by
  have h:=Option.some.inj h
  subst h
  exact ho
 | (a,v)::l,T,tr,tr',hl,h,ho=>by
  obtain⟨u,h1,h⟩:=yX (show oc (rsE fa σ v) (fun u=>zaK tr 13 a u (fun tr=>wrT fa σ l tr)) none=some tr' from h)
  rw[j2]at h
  have ha:a<8192:=hl _ (List.mem_cons_self ..)
  obtain⟨g1,_⟩:=zfj hf hσ ρ ρ' v u h1
  refine wrA_ok hf hσ ρ ρ' hN l (T.set 13 a v.v) _ tr' (fun q hq=>hl q (List.mem_cons_of_mem _ hq)) h fun i hi=>?_
  have h2:=ho i hi
  unfold yH at h2 ⊢
  rw[Tr.get_set 13 _ _ _ _ ha (by show i<8192;omega),Tr.get_set 13 _ _ _ _ ha (by show i<8192;omega)]
  by_cases e:i=a
  ·rw[if_pos e,if_pos e]
   exact g1
  ·rw[if_neg e,if_neg e]
   exact h2
theorem zwj {p:Ev.P} {o:O}:∀ {l:List (Ev.P × O)},(ptL l).get p=some o->(p,o)∈l
 | [],h=>by rw[show ptL []=.e from rfl,PT.get_e]at h;cases h
 | (q,u)::r,h=>by
  have h:((ptL r).set q u).get p=some o:=h
  by_cases e:p=q
  ·subst e
   rw[PT.get_set_same]at h
   rw[Option.some.inj h]
   exact List.mem_cons_self ..
  ·rw[PT.get_set_other _ _ _ _ (fun h=>e h.symm)]at h
   exact List.mem_cons_of_mem _ (zwj h)
theorem zl7 {c:XC} {s:Xm} {p:Ev.P} {o:O} (h:(hX c s).t.get p=some o):(p=c.m/\o=oM c (.si .i64 (.v 5)))\/(p=c.id/\o=.arr c.tA c.N 13 w0 s.tr)\/(p=c.kp/\o=oK c (.si .i64 (.v 6)))\/(p,o)∈c.fix:=by
 have h:((((ptL c.fix).set c.kp (oK c (.si .i64 (.v 6)))).set c.id (.arr c.tA c.N 13 w0 s.tr)).set c.m (oM c (.si .i64 (.v 5)))).get p=some o:=h
 by_cases e:p=c.m
 ·subst e
  rw[PT.get_set_same]at h
  exact .inl ⟨rfl,(Option.some.inj h).symm⟩
 rw[PT.get_set_other _ _ _ _ (fun h=>e h.symm)]at h
 by_cases e2:p=c.id
 ·subst e2
  rw[PT.get_set_same]at h
  exact .inr (.inl ⟨rfl,(Option.some.inj h).symm⟩)
 rw[PT.get_set_other _ _ _ _ (fun h=>e2 h.symm)]at h
 by_cases e3:p=c.kp
 ·subst e3
  rw[PT.get_set_same]at h
  exact .inr (.inr (.inl ⟨rfl,(Option.some.inj h).symm⟩))
 rw[PT.get_set_other _ _ _ _ (fun h=>e3 h.symm)]at h
 exact .inr (.inr (.inr (zwj h)))
def H.three (c:XC) (h:H) (x:XR):H:=⟨h.n,h.lo,((h.t.set c.kp x.ok).set c.id x.oi).set c.m x.om⟩
theorem zw6 {c:XC} {h:H} {x:XR} {p:Ev.P} {o:O} (hg:(h.three c x).t.get p=some o):(p=c.m/\o=x.om)\/(p=c.id/\o=x.oi)\/(p=c.kp/\o=x.ok)\/(p≠c.m/\p≠c.id/\p≠c.kp/\h.t.get p=some o):=by
 have hg:(((h.t.set c.kp x.ok).set c.id x.oi).set c.m x.om).get p=some o:=hg
 by_cases e:p=c.m
 ·subst e
  rw[PT.get_set_same]at hg
  exact .inl ⟨rfl,(Option.some.inj hg).symm⟩
 rw[PT.get_set_other _ _ _ _ (fun h=>e h.symm)]at hg
 by_cases e2:p=c.id
 ·subst e2
  rw[PT.get_set_same]at hg
  exact .inr (.inl ⟨rfl,(Option.some.inj hg).symm⟩)
 rw[PT.get_set_other _ _ _ _ (fun h=>e2 h.symm)]at hg
 by_cases e3:p=c.kp
 ·subst e3
  rw[PT.get_set_same]at hg
  exact .inr (.inr (.inl ⟨rfl,(Option.some.inj hg).symm⟩))
 rw[PT.get_set_other _ _ _ _ (fun h=>e3 h.symm)]at hg
 exact .inr (.inr (.inr ⟨e,e2,e3,hg⟩))
theorem zms {c:XC} {h:H} {x:XR} {p:Ev.P} (e:p≠c.m) (e2:p≠c.id) (e3:p≠c.kp):(h.three c x).t.get p=h.t.get p:=by
 show (((h.t.set c.kp x.ok).set c.id x.oi).set c.m x.om).get p=h.t.get p
 rw[PT.get_set_other _ _ _ _ (fun h=>e h.symm),PT.get_set_other _ _ _ _ (fun h=>e2 h.symm),PT.get_set_other _ _ _ _ (fun h=>e3 h.symm)]
theorem fix_is {c:XC} {o:O} {n0:Ev.P} {ρ ρ2:Rho} {L:Pl} {hp:Array Obj} (hf:o.fixB n0=true) (ha:∀ i:Ev.P,i.toNat<n0.toNat->ρ2 i=ρ i) (h:o.Is E ρ2 L hp):o.Is E' ρ L hp:=by
 cases o <;> first | (cases hf;done) | skip
 rename_i t l
 have hf:(zbY l && zbe n0 l)=true:=hf
 simp only[Bool.and_eq_true]at hf
 have h:hp[L.b]? = some (.cells (γL E ρ2 l).toArray t (0,0)):=h
 show hp[L.b]? = some (.cells (γL E' ρ l).toArray t (0,0))
 rw[h,γL_agree E ha l (zaD l hf.2),zc0 (E:=E) (E':=E') ρ hf.1]
theorem Xm.app_run {c:XC} {s:Xm} {F:Nat} {zc:zy} (hcall:∀ E':Env,(∀ q,q≠7->E'.s q=E.s q)->zi E' P zc) (hcw:c.wf=true) (hwf:s.wf c=true) (hr:s.run c F zc=0) {l:List V} {h:H} {fa:Fa} {x:XR}
  (ha:s.app c l h fa=some x) (hfa:FaOk E fa) :
  yl P F/\x.v.bd 0/\∀ ρ w,Sat E ρ h w->Calls P F (γL E ρ l).toArray w fun e w'=>e=.returned (x.v.γ E ρ)/\Sat E ρ (h.three c x) w'/\Ext ρ h w ρ (h.three c x) w':=by
 unfold Xm.app at ha
 obtain⟨hl,ha1⟩:=jr ha
 obtain⟨hmm,ha2⟩:=jr ha1
 simp only[Bool.and_eq_true]at hmm
 obtain⟨⟨⟨hm1,hm2⟩,hm3⟩,hfix⟩:=hmm
 obtain⟨om0,hom,ha3⟩:=yX ha2
 rw[zJ]at hom
 obtain⟨tm,id,n,n',stv,st,e0,ha4,hst⟩:=zlT ha3
 obtain⟨hb,ha5⟩:=jr ha4
 simp only[Bool.and_eq_true,Nat.beq_eq]at hb
 obtain⟨⟨⟨e1,eid⟩,e2⟩,e3⟩:=hb
 have eid:=jn eid
 obtain⟨oi0,hoi,ha6⟩:=yX ha5
 rw[zJ]at hoi
 obtain⟨ta,n2,d,z,tr,e4,ha7⟩:=zml ha6
 obtain⟨hb,ha8⟩:=jr ha7
 simp only[Bool.and_eq_true,Nat.beq_eq]at hb
 obtain⟨⟨⟨e5,e6⟩,e7⟩,ez⟩:=hb
 have ez:=V.beq_ok ez
 obtain⟨ok0,hok,ha9⟩:=yX ha8
 rw[zJ]at hok
 obtain⟨tk,kl,e8,ha10⟩:=zwW ha9
 obtain⟨e9,ha11⟩:=jr ha10
 have e9:tk=c.tK:=by simpa using e9
 obtain⟨u,hu,ha12⟩:=yX ha11
 obtain⟨xu,e10,hxu⟩:=ztX hu
 obtain⟨σ,hσ,hb0⟩:=yX ha12
 clear ha ha1 ha2 ha3 ha4 ha5 ha6 ha7 ha8 ha9 ha10 ha11 ha12
 have hl:=jl hl
 subst hl e0 e1 eid e2 e3 e4 e5 e6 e7 e8 e9 e10 ez
 unfold Xm.app2 at hb0
 obtain⟨hsT,hb1⟩:=jr hb0
 simp only[Bool.and_eq_true]at hsT
 obtain⟨⟨hkey,hwT⟩,hcn⟩:=hsT
 obtain⟨v,hv,hb2⟩:=yX hb1
 obtain⟨tr',htr',hb3⟩:=yX hb2
 have hb4:=Option.some.inj hb3
 clear hb0 hb1 hb2 hb3
 subst hb4
 unfold XC.wf at hcw
 simp only[Bool.and_eq_true]at hcw
 obtain⟨⟨⟨⟨⟨⟨hN,w1⟩,w2⟩,w3⟩,w4⟩,w5⟩,w6⟩:=hcw
 have hN:c.N<=8192:=by simpa using hN
 have w1:c.m.toNat<c.n0.toNat:=by simpa [pLt] using w1
 have w2:c.id.toNat<c.n0.toNat:=by simpa [pLt] using w2
 have w3:c.kp.toNat<c.n0.toNat:=by simpa [pLt] using w3
 have w6:∀ q∈c.fix,q.1.toNat<c.n0.toNat/\q.2.fixB c.n0=true:=fun q hq=>by
  have:=jA w6 q hq
  simp only[Bool.and_eq_true]at this
  exact⟨by simpa [pLt] using this.1,this.2⟩
 unfold Xm.wf at hwf
 simp only[Bool.and_eq_true]at hwf
 obtain⟨⟨⟨⟨hll,hlb⟩,hbt⟩,hrd⟩,hwr⟩:=hwf
 have hrd:∀ q∈s.rd,6<q.2:=fun q hq=>by simpa using jA hrd q hq
 have hwr:∀ q∈s.wr,q.1<c.N:=fun q hq=>by simpa using jA hwr q hq
 have hfix:∀ q∈c.fix,h.lo.toNat<=q.1.toNat/\h.t.get q.1=some q.2:=fun q hq=>by
  have:=jA hfix q hq
  simp only[Bool.and_eq_true]at this
  have h2:=jD this.2
  rw[zJ]at h2
  exact⟨yD h q.1 this.1,h2⟩
 have t:=zwS (E:=E) hkey
 obtain⟨E',hE'⟩:∃ E',E'=zez E σ:=⟨_,rfl⟩
 rw[<- hE']at t
 have hc:=hcall E' (fun q _=>by rw[hE'];rfl)
 have hlk:∀ i u,lk σ i=some u->u.den E=E'.i i:=fun i u h=>(t.i i u h).symm
 obtain⟨hcall1,v0,h0,fa0,hk0,_,hrun⟩:=hc _ _ _ _ _ hr (zvE hfa hlk hcn)
 have hbv:v.bd 0:=(zlF hfa hlk (fun _=>⟨0,0⟩) (fun _=>⟨0,0⟩) s.v v hv).2
 have h6:E'.i 6=u.den E:=t.i 6 u (zu9 (fun p hp=>by have:=hrd p hp;omega) hσ u rfl)
 have h5:E'.i 5=st.den E:=t.i 5 st (zu9 (fun p hp=>by have:=hrd p hp;omega) hσ st rfl)
 unfold Xm.ok at hk0
 obtain⟨q1,hk0⟩:=zn hk0 (by simp)
 obtain⟨q2,hk0⟩:=zn hk0 (by simp)
 obtain⟨q3,hk0⟩:=zn hk0 (by simp)
 obtain⟨q4,hk0⟩:=zn hk0 (by simp)
 obtain⟨q5,_⟩:=zn hk0 (by simp)
 have q1:=V.beq_ok q1
 have q2:=jD q2
 have q3:=jD q3
 have q4:=jD q4
 subst q1
 refine⟨hcall1,hbv,fun ρ w hs=>?_⟩
 obtain⟨hn13,cs,hcs,hsz,hcell⟩:=hs.obj c.id _ hoi
 have hmem:=hs.obj c.m _ hom
 have hmem:w.heap[(ρ c.m).b]? = some (.cells #[.slice (some ⟨(ρ c.id).b,0,none⟩) c.N c.N,stv.γ E ρ] c.tM (0,0)):=hmem
 have hker:=hs.obj c.kp _ hok
 have hker:w.heap[(ρ c.kp).b]? = some (.cells (γL E ρ (c.kc ++ [xu])).toArray c.tK (0,0)):=hker
 -- which things of h the pattern's are
 have there:∀ p o,(hX c s).t.get p=some o->∃ o0,h.t.get p=some o0/\o0.mine=true/\h.lo.toNat<=p.toNat:=by
  intro p o hp
  rcases zl7 hp with ⟨rfl,_⟩ | ⟨rfl,_⟩ | ⟨rfl,_⟩ | hm
  ·exact⟨_,hom,rfl,yD h _ hm1⟩
  ·exact⟨_,hoi,rfl,yD h _ hm2⟩
  ·exact⟨_,hok,rfl,yD h _ hm3⟩
  ·obtain⟨g1,g2⟩:=hfix _ hm
   refine⟨o,g2,?_,g1⟩
   have:=(w6 _ hm).2
   cases o <;> first | rfl | (cases this;done)
 have hsat:Sat E' ρ (hX c s) w:=by
  refine⟨fun p o hp=>?_,fun p q o o' hp hq _ _ hh=>?_,fun p o hp=>?_⟩
  ·rcases zl7 hp with ⟨rfl,rfl⟩ | ⟨rfl,rfl⟩ | ⟨rfl,rfl⟩ | hm
   ·show w.heap[(ρ c.m).b]? = some (.cells (γL E' ρ [.sl c.id 0 c.N c.N,.si .i64 (.v 5)]).toArray c.tM (0,0))
    rw[hmem]
    simp only[γL,V.γ,SE.den,h5,hst]
   ·refine⟨by omega,cs,hcs,hsz,fun i hi=>?_⟩
    rw[hcell i hi,zgf t ρ ρ 13 i hwT]
   ·show w.heap[(ρ c.kp).b]? = some (.cells (γL E' ρ (c.kc ++ [.si .i64 (.v 6)])).toArray c.tK (0,0))
    rw[hker,γL_append,γL_append,zc0 (E:=E) (E':=E') ρ w4]
    simp only[γL,V.γ,SE.den,h6,hxu]
   ·exact fix_is (c:=c) (w6 _ hm).2 (fun _ _=>rfl) (hs.obj p o (hfix _ hm).2)
  ·obtain⟨o1,g1,g2,_⟩:=there p o hp
   obtain⟨o2,g3,g4,_⟩:=there q o' hq
   exact hs.inj p q o1 o2 g1 g3 g2 (yA g4) hh
  ·rcases zl7 hp with ⟨rfl,rfl⟩ | ⟨rfl,rfl⟩ | ⟨rfl,rfl⟩ | hm
   ·exact⟨w1,w2,trivial,trivial⟩
   ·exact⟨w2,trivial,fun i v1 hi hv1=>bd_mono (Nat.zero_le _) v1 (zjc 13 i v1 hbt hv1)⟩
   ·exact⟨w3,zae (zaD c.kc w5) ⟨trivial,trivial⟩⟩
   ·obtain⟨g1,g2⟩:=w6 _ hm
    refine⟨g1,?_⟩
    cases o <;> first | (cases g2;done) | skip
    rename_i t1 l1
    have g2:(zbY l1 && zbe c.n0 l1)=true:=g2
    simp only[Bool.and_eq_true]at g2
    exact zaD l1 g2.2
 have hγ:γL E' ρ s.l=γL E ρ s.l:=zc0 (E:=E') (E':=E) ρ hll
 have hrun:=hrun ρ w (zaD s.l hlb) hsat
 rw[hγ]at hrun
 refine hrun.mono ?_
 rintro e w' ⟨ρ2,he,hs',hx',_⟩
 have ag:∀ i:Ev.P,i.toNat<c.n0.toNat->ρ2 i=ρ i:=fun i hi=>hx'.agree i hi
 refine⟨by rw[he,(zlF hfa hlk ρ ρ2 s.v v hv).1],?_⟩
 have i1:=hs'.obj c.id _ q2
 have i2:=hs'.obj c.m _ q3
 have i3:=hs'.obj c.kp _ q4
 rw[ag _ w2]at i1
 rw[ag _ w1]at i2
 rw[ag _ w3]at i3
 obtain⟨_,cs',k1,k2,k4⟩:=i1
 refine zv1 hs rfl rfl (fun p=>p=c.m\/p=c.id\/p=c.kp\/∃ o,(p,o)∈c.fix) ?_ ?_ ?_ hx'.os hx'.tape hx'.output hx'.size ?_
 ·rintro p (rfl | rfl | rfl | ⟨o,hm⟩)
  ·exact⟨_,hom,rfl,yD h _ hm1⟩
  ·exact⟨_,hoi,rfl,yD h _ hm2⟩
  ·exact⟨_,hok,rfl,yD h _ hm3⟩
  ·obtain⟨g1,g2⟩:=hfix _ hm
   refine⟨o,g2,?_,g1⟩
   have:=(w6 _ hm).2
   cases o <;> first | rfl | (cases this;done)
 ·intro p o hp
  rcases zw6 hp with ⟨rfl,rfl⟩ | ⟨rfl,rfl⟩ | ⟨rfl,rfl⟩ | ⟨n1,n2,n3,hp⟩
  ·refine .inl ⟨.inl rfl,?_,?_⟩
   ·show w'.heap[(ρ c.m).b]? = some (.cells (γL E ρ [.sl c.id 0 c.N c.N,stO fa st s.st]).toArray c.tM (0,0))
    have i2:w'.heap[(ρ c.m).b]? = some (.cells (γL E' ρ2 [.sl c.id 0 c.N c.N,.si .i64 (stP s.st)]).toArray c.tM (0,0)):=i2
    rw[i2]
    have:(stO fa st s.st).γ E ρ=V.γ E' ρ2 (.si .i64 (stP s.st)):=by
     unfold stO stP
     cases Nat.beq s.st 0 with
     | true=>
      show (mkE .i64 st).γ E ρ=Value.int .i64 (E'.i 5)
      rw[(zbx _ _ _).1,h5]
     | false=>
      show (mkE .i64 (opS fa .add .i64 st (.lit s.st))).γ E ρ=Value.int .i64 (arS .add .i64 (E'.i 5) s.st)
      rw[(zbx _ _ _).1,zlP hfa,h5]
      rfl
    simp only[γL,this]
    simp only[V.γ,ag _ w2]
   ·refine⟨(hs.bd c.id _ hoi).1,?_,trivial⟩
    unfold stO
    cases Nat.beq s.st 0 with
    | true=>exact bd_mono (Nat.zero_le _) _ (zbx (E:=E) _ _ ρ).2
    | false=>exact bd_mono (Nat.zero_le _) _ (zbx (E:=E) _ _ ρ).2
  ·refine .inl ⟨.inr (.inl rfl),?_,?_⟩
   ·refine⟨hn13,cs',k1,k2,fun i hi=>?_⟩
    rw[k4 i hi,<- wrA_ok hfa hlk ρ ρ2 (z:=w0) hN s.wr s.tr tr tr' (fun q hq=>by have:=hwr q hq;omega) htr' (fun i hi=>zgf t ρ ρ2 13 i hwT) i hi]
   ·have hb:=(hs.bd c.id _ hoi).2
    exact⟨hb.1,zuI hfa s.wr tr tr' (fun q hq=>by have:=hwr q hq;omega) htr' hb.2⟩
  ·refine .inl ⟨.inr (.inr (.inl rfl)),?_,?_⟩
   ·show w'.heap[(ρ c.kp).b]? = some (.cells (γL E ρ (c.kc ++ [.i .i64 s.u])).toArray c.tK (0,0))
    have i3:w'.heap[(ρ c.kp).b]? = some (.cells (γL E' ρ2 (c.kc ++ [.i .i64 s.u])).toArray c.tK (0,0)):=i3
    rw[i3,γL_append,γL_append,γL_agree E' ag c.kc (zaD c.kc w5),zc0 (E:=E') (E':=E) ρ w4]
    rfl
   ·have hb:=(hs.bd c.kp _ hok).2
    refine zae ?_ ⟨trivial,trivial⟩
    have hb:bdL h.n.toNat (c.kc ++ [xu]):=hb
    rw[yg]at hb ⊢
    exact fun v1 hv1=>hb v1 (List.mem_append_left _ hv1)
  ·by_cases hf:∃ o',(p,o')∈c.fix
   ·obtain⟨o',hm⟩:=hf
    have g:=(hfix _ hm).2
    have e:o'=o:=Option.some.inj (g.symm.trans hp)
    subst e
    have hq:=jD (jA q5 _ hm)
    have:=hs'.obj p o' hq
    rw[ag _ (w6 _ hm).1]at this
    exact .inl ⟨.inr (.inr (.inr ⟨o',hm⟩)),fix_is (c:=c) (w6 _ hm).2 ag this,(hs.bd p o' hp).2⟩
   ·refine .inr ⟨?_,hp⟩
    rintro (e | e | e | e)
    ·exact n1 e
    ·exact n2 e
    ·exact n3 e
    ·exact hf e
 ·intro p hp
  exact zms (fun e=>hp (.inl e)) (fun e=>hp (.inr (.inl e))) (fun e=>hp (.inr (.inr (.inl e))))
 ·intro b hb hn
  refine hx'.keep b hb fun p o hp _ _=>?_
  intro e
  refine hn p ?_ e.symm
  rcases zl7 hp with ⟨rfl,_⟩ | ⟨rfl,_⟩ | ⟨rfl,_⟩ | hm
  ·exact .inl rfl
  ·exact .inr (.inl rfl)
  ·exact .inr (.inr (.inl rfl))
  ·exact .inr (.inr (.inr ⟨o,hm⟩))
end Go.Ev
end
set_option linter.unusedSimpArgs false
set_option linter.unusedVariables false
noncomputable section
namespace Go.Ev
open Go
variable {E E':Env} {P:Program}
structure TE where
 F:Nat
 l:List V
 lv:List V
 v:V
 lv':List V
def TE.app (tT:Nat) (s:TE) (G:Nat) (l:List V) (h:H):Option Ev.P:=
 bc (Nat.beq G s.F) (jM none (fun x r=>zak (some x) (fun p off=>bc (Nat.beq off 0 && yZ r s.l && zaI h p) (oc (ya h p) (fun o=>celO o (fun t lv=>bc (Nat.beq t tT && yZ lv s.lv) (some p) none) none) none) none) none) l) none
def zvY (tT:Nat) (es:List TE) (G:Nat) (l:List V) (h:H) (fa:Fa) (k:K) (e:Nat):Nat:=
 yC e (fun s _ ih=>oc (s.app tT G l h) (fun p=>jL h p (.cells tT s.lv') (fun h=>k s.v h fa)) ih) es
def tlT (tT:Nat) (es:List TE) (inner:zy):zy:=fun G l h fa k=>zvY tT es G l h fa k (inner G l h fa k)
structure OnlyT (b:Nat) (w w':World):Prop where
 os:w'.os=w.os
 tape:w'.tape=w.tape
 output:w'.output=w.output
 size:w.heap.size<=w'.heap.size
 keep:∀ c,c<w.heap.size->c≠b->w'.heap[c]? = w.heap[c]?
structure TE.Ok (E:Env) (P:Program) (tT:Nat) (s:TE):Prop where
 call:yl P s.F
 bl:bdL 1 s.l
 bv:s.v.bd 1
 bv':bdL 1 s.lv'
 run:∀ (ρ:Rho) (w:World) (b:Nat),w.heap[b]? = some (.cells (γL E ρ s.lv).toArray tT (0,0))->Calls P s.F (.pointer (some ⟨b,0,none⟩)::γL E ρ s.l).toArray w fun e w'=>e=.returned (s.v.γ E ρ)/\w'.heap[b]? = some (.cells (γL E ρ s.lv').toArray tT (0,0))/\OnlyT b w w'
theorem γ_any {v:V} (h:v.bd 1) (ρ ρ':Rho):v.γ E ρ'=v.γ E ρ:=γ_agree E (n:=1) (fun i hi=>absurd hi (by have:=i.toNat_pos;omega)) v h
theorem γL_any {l:List V} (h:bdL 1 l) (ρ ρ':Rho):γL E ρ' l=γL E ρ l:=γL_agree E (n:=1) (fun i hi=>absurd hi (by have:=i.toNat_pos;omega)) l h
theorem TE.app_ok {tT:Nat} {s:TE} {G:Nat} {l:List V} {h:H} {p:Ev.P} (ha:s.app tT G l h=some p):G=s.F/\l=.ptr p 0::s.l/\zaI h p=true/\h.t.get p=some (.cells tT s.lv):=by
 unfold TE.app at ha
 obtain⟨hG,ha1⟩:=jr ha
 have hG:G=s.F:=by simpa using hG
 clear ha
 cases l with
 | nil=>cases ha1
 | cons x r=>
  have ha2:zak (some x) (fun p off=>bc (Nat.beq off 0 && yZ r s.l && zaI h p) (oc (ya h p) (fun o=>celO o (fun t lv=>bc (Nat.beq t tT && yZ lv s.lv) (some p) none) none) none) none) none=some p:=ha1
  clear ha1
  cases x <;> first | (cases ha2;done) | skip
  rename_i p1 off
  obtain⟨hb,ha3⟩:=jr (show bc (Nat.beq off 0 && yZ r s.l && zaI h p1) (oc (ya h p1) (fun o=>celO o (fun t lv=>bc (Nat.beq t tT && yZ lv s.lv) (some p1) none) none) none) none=some p from ha2)
  simp only[Bool.and_eq_true,Nat.beq_eq]at hb
  obtain⟨⟨e1,e2⟩,e3⟩:=hb
  obtain⟨o,ho,ha4⟩:=yX ha3
  obtain⟨t,lv,e4,ha5⟩:=zwW ha4
  obtain⟨hb2,ha6⟩:=jr ha5
  simp only[Bool.and_eq_true,Nat.beq_eq]at hb2
  have ha7:=Option.some.inj ha6
  subst ha7
  rw[zJ]at ho
  exact⟨hG,by rw[e1,jl e2],e3,by rw[ho,e4,hb2.1,jl hb2.2]⟩
theorem tl_ok {tT:Nat} {es:List TE} {inner:zy} (he:∀ s∈es,TE.Ok E P tT s) (hi:zi E P inner):zi E P (tlT tT es inner):=by
 intro G l h fa k hk hfa
 replace hk:zvY tT es G l h fa k (inner G l h fa k)=0:=hk
 revert hk
 induction es with
 | nil=>exact fun hk=>hi _ _ _ _ _ (show inner G l h fa k=0 from hk) hfa
 | cons s r ih=>
  intro hk
  have hk:oc (s.app tT G l h) (fun p=>jL h p (.cells tT s.lv') (fun h=>k s.v h fa)) (zvY tT r G l h fa k (inner G l h fa k))=0:=hk
  cases ha:s.app tT G l h with
  | none=>
   rw[ha]at hk
   exact ih (fun s1 hs=>he s1 (List.mem_cons_of_mem _ hs)) hk
  | some p=>
   rw[ha]at hk
   have hk3:jL h p (.cells tT s.lv') (fun h=>k s.v h fa)=0:=hk
   rw[y9]at hk3
   clear hk
   have ok:=he s (List.mem_cons_self ..)
   obtain⟨hG,hl,hmay1,ho⟩:=TE.app_ok ha
   subst hG hl
   refine⟨ok.call,s.v,h.put p (.cells tT s.lv'),fa,hk3,hfa,fun ρ w hb hs=>?_⟩
   have hc:=hs.obj p _ ho
   refine(show Calls P s.F (.pointer (some ⟨(ρ p).b,0,none⟩)::γL E ρ s.l).toArray w _ from ?_)
   refine(ok.run ρ w (ρ p).b hc).mono ?_
   rintro e w' ⟨he1,hc',hw⟩
   have hn1:1<=h.n.toNat:=h.n.toNat_pos
   have hup:=zv1 hs (h':=h.put p (.cells tT s.lv')) (w':=w') rfl rfl (fun q=>q=p) (fun q hq=>by subst hq;exact⟨_,ho,rfl,yD h _ hmay1⟩) (fun q o hq=>by
    have hq:(h.t.set p (.cells tT s.lv')).get q=some o:=hq
    by_cases e2:q=p
    ·subst e2
     rw[PT.get_set_same]at hq
     rw[<- Option.some.inj hq]
     exact .inl ⟨rfl,hc',yO hn1 _ ok.bv'⟩
    ·rw[PT.get_set_other _ _ _ _ (fun e=>e2 e.symm)]at hq
     exact .inr ⟨e2,hq⟩) (fun q hq=>PT.get_set_other _ _ _ _ (fun e=>hq e.symm)) hw.os hw.tape hw.output hw.size (fun b hb hn=>hw.keep b hb (hn p rfl))
   exact⟨ρ,he1,hup.1,hup.2,bd_mono hn1 _ ok.bv⟩
theorem zeJ {tT:Nat} {s:TE} (h:TE.Ok E' P tT s) {l lv lv':List V} {v:V} (e1:∀ ρ,γL E ρ l=γL E' ρ s.l) (e2:∀ ρ,γL E ρ lv=γL E' ρ s.lv) (e3:∀ ρ,v.γ E ρ=s.v.γ E' ρ) (e4:∀ ρ,γL E ρ lv'=γL E' ρ s.lv') (b1:bdL 1 l) (b2:v.bd 1) (b3:bdL 1 lv') :
  TE.Ok E P tT ⟨s.F,l,lv,v,lv'⟩:=by
 refine⟨h.call,b1,b2,b3,fun ρ w b hb=>?_⟩
 show Calls P s.F (.pointer (some ⟨b,0,none⟩)::γL E ρ l).toArray w fun e w'=>e=.returned (v.γ E ρ)/\w'.heap[b]? = some (.cells (γL E ρ lv').toArray tT (0,0))/\OnlyT b w w'
 rw[e1,e3,e4]
 exact h.run ρ w b (by rw[<- e2];exact hb)
def hTl (tT:Nat) (lv:List V):H:=⟨.o .h,.h,(PT.e:PT O).set .h (.cells tT lv)⟩
def teK (tT:Nat) (v:V) (lv':List V):K:=fun u h _=>bc (V.beq u v) (bc (zaH (h.t.get .h) (some (.cells tT lv'))) 0 2) 1
theorem zcs {tT:Nat} {F:Nat} {l lv lv':List V} {v:V} {zc:zy} {fa:Fa} (hcall:zi E P zc) (hfa:FaOk E fa) (hr:zc F (.ptr .h 0::l) (hTl tT lv) fa (teK tT v lv')=0) (b1:bdL 1 l) (b0:bdL 1 lv) (b2:v.bd 1) (b3:bdL 1 lv'):TE.Ok E P tT ⟨F,l,lv,v,lv'⟩:=by
 obtain⟨hca,u,h',fa',hk,_,hrun⟩:=hcall _ _ _ _ _ hr hfa
 unfold teK at hk
 obtain⟨q1,hk⟩:=zn hk (by simp)
 obtain⟨q2,_⟩:=zn hk (by simp)
 have q1:=V.beq_ok q1
 have q2:=jD q2
 subst q1
 refine⟨hca,b1,b2,b3,fun ρ w b hb=>?_⟩
 have get:∀ p o,(hTl tT lv).t.get p=some o->p=.h/\o=.cells tT lv:=fun p o hp=>by
  have hp:((PT.e:PT O).set .h (.cells tT lv)).get p=some o:=hp
  by_cases e:p=.h
  ·subst e
   rw[PT.get_set_same]at hp
   exact⟨rfl,(Option.some.inj hp).symm⟩
  ·rw[PT.get_set_other _ _ _ _ (fun h=>e h.symm),PT.get_e]at hp
   cases hp
 have hsat:Sat E (fun _=>⟨b,0⟩) (hTl tT lv) w:=by
  refine⟨fun p o hp=>?_,fun p q o o' hp hq _ _ _=>?_,fun p o hp=>?_⟩
  ·obtain⟨rfl,rfl⟩:=get p o hp
   show w.heap[b]? = some (.cells (γL E _ lv).toArray tT (0,0))
   rw[hb,γL_any b0 (fun _=>⟨b,0⟩) ρ]
  ·rw[(get p o hp).1,(get q o' hq).1]
  ·obtain⟨rfl,rfl⟩:=get p o hp
   exact⟨by show (1:Nat)<2;decide,yO (by show (1:Nat)<=2;decide) _ b0⟩
 have hb1:bdL (hTl tT lv).n.toNat (.ptr .h 0::l):=⟨by show (1:Nat)<2;decide,yO (by show (1:Nat)<=2;decide) _ b1⟩
 refine(show Calls P F (.pointer (some ⟨b,0,none⟩)::γL E ρ l).toArray w _ from ?_)
 have:=hrun _ w hb1 hsat
 rw[show γL E (fun _=>(⟨b,0⟩:Pl)) (.ptr .h 0::l)=.pointer (some ⟨b,0,none⟩)::γL E ρ l from by
  show V.γ E _ (.ptr .h 0)::γL E _ l=_
  rw[γL_any b1 ρ (fun _=>⟨b,0⟩)];rfl]at this
 refine this.mono ?_
 rintro e w' ⟨ρ2,he,hs',hx',_⟩
 have ag:ρ2 .h=⟨b,0⟩:=hx'.agree .h (by show (1:Nat)<2;decide)
 refine⟨by rw[he,γ_any b2 ρ ρ2],?_,hx'.os,hx'.tape,hx'.output,hx'.size,fun c hc hne=>hx'.keep c hc fun p o hp _ _ e2=>?_⟩
 ·have:=hs'.obj .h _ q2
  rw[ag]at this
  have this:w'.heap[b]? = some (.cells (γL E ρ2 lv').toArray tT (0,0)):=this
  rw[this,γL_any b3 ρ ρ2]
 ·exact hne e2.symm
end Go.Ev
end
set_option linter.unusedSimpArgs false
set_option linter.unusedVariables false
noncomputable section
namespace Go.Ev
open Go Go.RowKit
variable {E E':Env} {P:Program} {N:Nat}
theorem zBh {Y:Ty} (hY:TyOk P Y) (hm:P.follows .mixedOrders=true) {dr:Nat->Option Dr} {F:Nat} {f:Func} {q:CutX} (hfn:P.funcs[F]? = some f) (hc:cutX Y dr f=some q) (hw:zby dr f=true)
  {st:Nat->GS} {Inv:Nat->Nat->Env->Prop}
  (round:∀ m j E,Inv m j E->∃ g fa nx,zi E P g.call/\FaOk E fa/\runJ st q.x q.z (koB q.rs) g j fa nx=0/\zf2 st Inv E nx m)
  {E:Env} {g0:Ctx} (h0:zi E P g0.call) {l:List V} {h00:H} {fa:Fa} (hfa:FaOk E fa) {nx:List (Nat × Sg)} (m:Nat) (hl:zf2 st Inv E nx m)
  (hin:zbp l (fun fr=>zIn q.z g0 fr h00 fa (fun fr h _=>zfw st nx fr h) (koB q.rs))=0)
  {ρ:Rho} {w:World} (hs:Sat E ρ h00 w) (hbd:bdL h00.n.toNat l) (zas:∀ p o,h00.t.get p=some o->o.live=true->h00.lo.toNat<=p.toNat->w.heap.size<=(ρ p).b) :
  Calls P F (γL E ρ l).toArray w fun e w'=>e=.returned (.bool true)/\Below w.heap.size w w':=by
 unfold cutX at hc
 split at hc
 rotate_left
 ·simp at hc
 rename_i c rs hb hrs
 split at hc
 rotate_left
 ·simp at hc
 rename_i z x hz
 simp at hc;subst hc
 have hcz:=zeD hz
 subst hcz
 unfold zby at hw
 rw[hb]at hw
 obtain⟨hB1,hB2⟩:=zdt hw
 obtain⟨fr,hk,hfr⟩:=jH hin
 refine calls_of_wp hfn hb ?_
 have hf:zw E ρ h00.n.toNat fr ((γL E ρ l).toArray ++ Array.replicate (f.ntmps - (γL E ρ l).toArray.size) undef):=by
  intro t v hv
  have h2:=hfr t v hv
  have ht:t<l.length:=(List.getElem?_eq_some_iff.1 h2).1
  refine⟨?_,(yg _ l).1 hbd v (List.mem_of_getElem? h2)⟩
  rw[Array.getElem?_append_left (by simp[γL_length];exact ht)]
  simp[γL_get,h2]
 have kB:=fun E=>zAt (N:=f.ntmps) hY hrs w h00.lo E
 have L:=zga (N:=f.ntmps) (w0:=w) (lo:=h00.lo) (QZ:=zge P z (bodyPost P f (fun e w'=>e=.returned (.bool true)/\Below w.heap.size w w'))) (st:=st) (Inv:=Inv) hY hm hB2 fun m j E hI=>by
  obtain⟨g,fa,nx,hg,h1,h2,h3⟩:=round m j E hI
  exact⟨fa,nx,zjb (zGo Y f.ntmps dr z) g (koB rs),g,hg,h1,h2,h3,zcr hY hm hg z _ _ hB1 (kB E)⟩
 refine zeE hY hm h0 (w0:=w) (lo:=h00.lo) z fr h00 fa (koB rs) _ hB1 hk hfa (kB E) ?_ ρ w _ ⟨rfl,rfl,rfl,rfl,Nat.le_refl _,fun _ _=>rfl,zas⟩ hs hf (by simp[γL_length];omega) rfl
 intro fr' h' fa' hk' hfa' ρ' w' a' d' s' f' n' dd'
 obtain⟨hne,hall⟩:=ztJ hk'
 obtain⟨j',σ,m',E',hmem,hlt,hI',ht,hrow⟩:=hl hne
 obtain⟨d2,s2,f2⟩:=ztQ (hall _ hmem) ht hrow d' s' f'
 exact wp_loop_rounds (m'+1) (L m' j' E' hI' ρ' w' a' d2 s2 f2 n' dd')
end Go.Ev
end
