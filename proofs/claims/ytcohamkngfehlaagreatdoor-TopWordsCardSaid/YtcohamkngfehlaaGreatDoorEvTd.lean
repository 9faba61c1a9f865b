import Derived.Test.YtcohamkngfehlaaGreatDoorE5
import Derived.Test.YtcohamkngfehlaaGreatDoorEvG3
set_option linter.unusedSimpArgs false
set_option linter.unusedVariables false
noncomputable section
namespace Go.Ev
open Go Go.RowKit
variable {E:Env} {P:Program}
def rowsG (g:Nat->List V) (h:H):Bool:=hc h (fun _ _ t=>zdZ (fun _ o=>match o with
 | .row q z N I l=>Nat.beq z 1 && SE.beq I (.v 2) && jn l (g q)
 | _=>true) (fun p=>p) t)
theorem zjl {g:Nat->List V} {h:H} (hr:rowsG g h=true)
  (hg:∀ q,g q≠[]->E.i 2=(E.s q).idx/\(E.s q).idx<(E.s q).len/\∃ v,g q=[v]/\∀ ρ,(E.s q).cs[(E.s q).off+(E.s q).idx]? = some (v.γ E ρ)):∀ p o,h.t.get p=some o->zfA E o:=by
 intro p o hp
 unfold rowsG at hr
 rw[jt]at hr
 have:=za6 _ _ p o hr hp
 cases o with
 | row q z N I l=>
  simp only[Bool.and_eq_true,Nat.beq_eq]at this
  obtain⟨⟨rfl,hI⟩,hl'⟩:=this
  have hI:=SE.beq_eq hI
  have hl':=jq hl'
  subst hI;subst hl'
  intro hne
  obtain⟨h2,hl,v,hv,hc⟩:=hg q hne
  refine⟨h2,hl,by rw[hv];rfl,fun ρ i hi=>?_⟩
  rw[hv]at hi ⊢
  have:i=0:=by simpa using hi
  subst this
  rw[Nat.mul_one,Nat.add_zero,hc ρ]
  rfl
 | _=>trivial
def g2 (a b:List V) (q:Nat):List V:=bc (Nat.beq q 0) a (bc (Nat.beq q 1) b [])
theorem g2_or {a b:List V} {q:Nat} (h:g2 a b q≠[]):q=0\/q=1:=by
 match q,h with
 | 0,_=>exact .inl rfl
 | 1,_=>exact .inr rfl
 | q+2,h=>exact absurd (show g2 a b (q+2)=[] from rfl) h
def RowB (r:Row) (D:Nat->Bool):Prop:=∀ i,i<r.len->r.cs[r.off+i]? = some (.bool (D i))
def flagV (v:Nat):List V:=bc (Nat.beq v 1) [.b true] (bc (Nat.beq v 2) [.b false] [])
def wordV (v:Nat):List V:=bc (Nat.beq v 3) [] [.si .u64 (.v 3)]
def zbH (st:Nat->GS) (j v:Nat):Bool:=rowsG (g2 (wordV v) (flagV v)) (st (4*j+v)).h
def InvX (n:Nat) (B:Int) (m j:Nat) (E:Env):Prop:=j<4*n/\E.i 1=(E.s 0).len/\E.i 8=(E.s 1).len/\(∃ D,zhb (E.s 0) D)/\(∃ D,RowB (E.s 1) D)/\0<=E.i 2/\(m:Int)+E.i 2=B /\
 (j % 4≠3->E.i 2<E.i 1/\E.i 2<B/\(E.i 2<E.i 8 ↔ j % 4≠0))/\(j % 4=3->¬ (E.i 2<E.i 1/\E.i 2<B))
def nx4 (t:Nat) (s:List (Nat × SE)):List (Nat × Sg):=[(4*t,sgA s),(4*t+1,sgA s),(4*t+2,sgA s),(4*t+3,sgA s)]
theorem leadX {n:Nat} {B:Int} {st:Nat->GS} (hr:∀ j v,j<n->v<4->zbH st j v=true) {m j:Nat} (hj:j<n) {sg:List (Nat × SE)} {s2:SE} {x:Int}
  (g1:sgA sg 1=some (.v 1)) (g8:sgA sg 8=some (.v 8)) (g2':sgA sg 2=some s2) (g3:sgA sg 3=none) (hx:s2.den E=x) (hx0:0<=x) (hxB:x<=B) (hlen:E.i 1=(E.s 0).len) (hlen2:E.i 8=(E.s 1).len) (hD:∃ D,zhb (E.s 0) D) (hD2:∃ D,RowB (E.s 1) D) (hm:B - x<m) :
  zdi st (InvX n B) E (nx4 j sg) m:=by
 intro _
 obtain⟨D,hD⟩:=hD
 obtain⟨D2,hD2⟩:=hD2
 have t:=nxO_tr g3 E D x
 have e1:(nxO (sgA sg) E D x).i 1=E.i 1:=t.i 1 _ g1
 have e8:(nxO (sgA sg) E D x).i 8=E.i 8:=t.i 8 _ g8
 have e2:(nxO (sgA sg) E D x).i 2=x:=(t.i 2 _ g2').trans hx
 have e3:(nxO (sgA sg) E D x).i 3=D x.toNat:=rfl
 have i2:(nxO (sgA sg) E D x).i 2=((x.toNat:Nat):Int):=by omega
 by_cases hk:x<(E.s 0).len/\x<B
 ·have hd:=hD x.toNat (by omega)
  have w0:∀ ρ,((nxO (sgA sg) E D x).s 0).cs[((nxO (sgA sg) E D x).s 0).off+((nxO (sgA sg) E D x).s 0).idx]? = some ((V.si .u64 (.v 3)).γ (nxO (sgA sg) E D x) ρ):=by
   intro ρ
   show (E.s 0).cs[(E.s 0).off+x.toNat]? = some (.int .u64 ((nxO (sgA sg) E D x).i 3))
   rw[e3];exact hd.1
  have key:∀ v,v<3->(v≠0->x<(E.s 1).len)->(∀ b,flagV v=[.b b]->D2 x.toNat=b)->(v=0->¬ x<(E.s 1).len)->(v≠0->∃ b,flagV v=[.b b]) ->
    ∃ j' σ m' E',(j',σ)∈nx4 j sg/\m'<m/\InvX n B m' j' E'/\TrE σ E E'/\∀ p o,(st j').h.t.get p=some o->zfA E' o:=by
   intro v hv h1 h2 h0 hb
   refine⟨4*j+v,sgA sg,(B - x).toNat,nxO (sgA sg) E D x,?_,by omega,⟨by omega,e1.trans hlen,e8.trans hlen2,⟨D,hD⟩,⟨D2,hD2⟩,by omega,by omega,fun _=>⟨by omega,by omega,?_⟩,fun h=>by omega⟩,t,zjl (hr j v hj (by omega)) ?_⟩
   ·unfold nx4
    rcases (by omega:v=0\/v=1\/v=2) with rfl | rfl | rfl <;> simp
   ·rw[e2,e8,hlen2,show (4*j+v) % 4=v from by omega]
    exact⟨fun h3 h4=>h0 h4 h3,h1⟩
   ·intro q hq
    rcases g2_or hq with rfl | rfl
    ·refine⟨i2,?_,.si .u64 (.v 3),?_,w0⟩
     ·show x.toNat<(E.s 0).len
      omega
     ·rcases (by omega:v=0\/v=1\/v=2) with rfl | rfl | rfl <;> rfl
    ·have hv0:v≠0:=fun h=>by subst h;exact hq rfl
     have hl:=h1 hv0
     obtain⟨b,hb⟩:=hb hv0
     refine⟨i2,?_,.b b,hb,fun ρ=>?_⟩
     ·show x.toNat<(E.s 1).len
      omega
     ·show (E.s 1).cs[(E.s 1).off+x.toNat]? = some (.bool b)
      rw[<- h2 b hb];exact hD2 x.toNat (by omega)
  by_cases hl:x<(E.s 1).len
  ·cases hb:D2 x.toNat with
   | true=>exact key 1 (by omega) (fun _=>hl) (fun b h=>by injection h with h _;injection h with h;rw[hb,h]) (fun h=>by cases h) (fun _=>⟨true,rfl⟩)
   | false=>exact key 2 (by omega) (fun _=>hl) (fun b h=>by injection h with h _;injection h with h;rw[hb,h]) (fun h=>by cases h) (fun _=>⟨false,rfl⟩)
  ·exact key 0 (by omega) (fun h=>absurd rfl h) (fun b h=>by cases h) (fun _=>hl) (fun h=>absurd rfl h)
 ·refine⟨4*j+3,_,(B - x).toNat,nxO (sgA sg) E D x,by simp[nx4],by omega,⟨by omega,e1.trans hlen,e8.trans hlen2,⟨D,hD⟩,⟨D2,hD2⟩,by omega,by omega,fun h=>by omega,fun _ h=>hk ⟨by omega,by omega⟩⟩,t,zjl (hr j 3 hj (by omega)) ?_⟩
  intro q hq
  rcases g2_or hq with rfl | rfl <;> exact absurd rfl hq
def zgZ (B:Int) (v:Nat):List (SB × Bool):=[(.cmp .lss (.v 2) (.v 1),true),(.cmp .lss (.v 2) (.lit B),true),(.cmp .lss (.v 2) (.v 8),bc (Nat.beq v 0) false true)]
theorem zkx {Y:Ty} (hY:TyOk P Y) (hm:P.follows .mixedOrders=true) {dr:Nat->Option Dr} {F:Nat} {f:Func} {q:CutX} (hfn:P.funcs[F]? = some f) (hc:cutX Y dr f=some q) (hw:za8 dr f=true)
  {n:Nat} {B:Int} (hB:0<=B/\B<4611686018427387904) {st:Nat->GS} {t:Nat->Nat->Nat} {sg:Nat->Nat->List (Nat × SE)} {c0:zR} (hc0:∀ E,zd E P c0)
  (ht:∀ j v,j<n->v<3->t j v<n) (hg1:∀ j v,j<n->v<3->sgA (sg j v) 1=some (.v 1)) (hg8:∀ j v,j<n->v<3->sgA (sg j v) 8=some (.v 8)) (hg2:∀ j v,j<n->v<3->sgA (sg j v) 2=some (.op .add .i64 (.v 2) (.lit 1))) (hg3:∀ j v,j<n->v<3->sgA (sg j v) 3=none)
  (hr:∀ j v,j<n->v<4->zbH st j v=true)
  (go:∀ j v,j<n->v<3->jX st q.x q.z (koB q.rs) ⟨c0,F,20000⟩ (4*j+v) ⟨zgZ B v,[]⟩ (nx4 (t j v) (sg j v))=0)
  (out:∀ j b,j<n->jX st q.x q.z (koB q.rs) ⟨c0,F,20000⟩ (4*j+3) ⟨zaW B b,[]⟩ []=0)
  {E:Env} (hlen:E.i 1=(E.s 0).len) (hlen2:E.i 8=(E.s 1).len) (hD:∃ D,zhb (E.s 0) D) (hD2:∃ D,RowB (E.s 1) D) {j0:Nat} (hj0:j0<n) {sg0:List (Nat × SE)} (g1:sgA sg0 1=some (.v 1)) (g8:sgA sg0 8=some (.v 8)) (g2:sgA sg0 2=some (.lit 0)) (g3:sgA sg0 3=none)
  {g0:Ctx} (h0:zd E P g0.call) {l:List V} {h00:H} {fa:Fa} (hfa:FaOk E fa)
  (hin:zaf l (fun fr=>zIn q.z g0 fr h00 fa (fun fr h _=>zc2 st (nx4 j0 sg0) fr h) (koB q.rs))=0)
  {ρ:Rho} {w:World} (hs:Sat E ρ h00 w) (hbd:bdL h00.n.toNat l) (jo:∀ p o,h00.t.get p=some o->o.live=true->h00.lo.toNat<=p.toNat->w.heap.size<=(ρ p).b) :
  Calls P F (γL E ρ l).toArray w fun e w'=>e=.returned (.bool true)/\Below w.heap.size w w':=by
 refine zmk hY hm hfn hc hw (st:=st) (gj:=fun _=>⟨c0,F,20000⟩) (Inv:=InvX n B) (fun m j E _=>hc0 E) ?_ h0 hfa (B.toNat+1) (leadX hr hj0 g1 g8 g2 g3 (x:=0) rfl (Int.le_refl 0) hB.1 hlen hlen2 hD hD2 (by omega)) hin hs hbd jo
 intro m j E hI
 obtain⟨hj,hlen,hlen2,hD,hD2,h20,hm',hk,hu⟩:=hI
 obtain⟨i,v,hv,rfl⟩:∃ i v,v<4/\j=4*i+v:=⟨j / 4,j % 4,by omega,by omega⟩
 have hi:i<n:=by omega
 have hmod:(4*i+v) % 4=v:=by omega
 rw[hmod]at hk hu
 by_cases hv3:v=3
 ·subst hv3
  have hu:=hu rfl
  have fin:∀ b,(∀ c∈zaW B b,SB.den E c.1=c.2)->∃ fa nx,FaOk E fa/\jX st q.x q.z (koB q.rs) ⟨c0,F,20000⟩ (4*i+3) fa nx=0/\zdi st (InvX n B) E nx m:=
   fun b hb=>⟨_,[],zgY hb,out i b hi,fun h=>absurd rfl h⟩
  by_cases h:E.i 2<E.i 1
  ·refine fin true ?_
   show ∀ c∈[_,_],_
   simp only[List.mem_cons,List.not_mem_nil,or_false,forall_eq_or_imp,forall_eq]
   exact⟨za4 rfl rfl (decide_eq_true h),za4 rfl rfl (decide_eq_false (fun h2=>hu ⟨h,h2⟩))⟩
  ·refine fin false ?_
   show ∀ c∈[_],_
   simp only[List.mem_cons,List.not_mem_nil,or_false,forall_eq]
   exact za4 rfl rfl (decide_eq_false h)
 ·obtain⟨k1,k2,k3⟩:=hk hv3
  have hv':v<3:=by omega
  refine⟨_,_,?_,go i v hi hv',leadX hr (ht i v hi hv') (hg1 i v hi hv') (hg8 i v hi hv') (hg2 i v hi hv') (hg3 i v hi hv') (x:=E.i 2+1) ?_ (by omega) (by omega) hlen hlen2 hD hD2 (by omega)⟩
  ·refine zgY ?_
   unfold zgZ
   simp only[List.mem_cons,List.not_mem_nil,or_false,forall_eq_or_imp,forall_eq]
   refine⟨za4 rfl rfl (decide_eq_true k1),za4 rfl rfl (decide_eq_true k2),?_⟩
   cases v with
   | zero=>exact za4 rfl rfl (decide_eq_false (fun h=>k3.1 h rfl))
   | succ v=>exact za4 rfl rfl (decide_eq_true (k3.2 (by omega)))
  ·show jH .i64 (E.i 2+1)=_
   rw[zZ,IntKind.wrap_i64];omega
theorem zky {Y:Ty} (hY:TyOk P Y) (hm:P.follows .mixedOrders=true) {dr:Nat->Option Dr} {F:Nat} {f:Func} {q:CutX} (hfn:P.funcs[F]? = some f) (hc:cutX Y dr f=some q) (hw:za8 dr f=true)
  {n:Nat} {B:Int} (hB:0<=B/\B<4611686018427387904) {st:Nat->GS} {t:Nat->Nat} {sg:Nat->List (Nat × SE)} {c0:zR} (hc0:∀ E,zd E P c0)
  (ht:∀ j,j<n->t j<n) (hg1:∀ j,j<n->sgA (sg j) 1=some (.v 1)) (hg2:∀ j,j<n->sgA (sg j) 2=some (.op .add .i64 (.v 2) (.lit 1))) (hg3:∀ j,j<n->sgA (sg j) 3=none)
  (hr:∀ j,j<n->zeR (st (2*j)).h=true/\rowU (st (2*j+1)).h=true)
  (go:∀ j,j<n->jX st q.x q.z (koB q.rs) ⟨c0,F,20000⟩ (2*j) ⟨(.cmp .lss (.v 2) (.lit 0),false)::fGoO B,[]⟩ [(2*t j,sgA (sg j)),(2*t j+1,sgA (sg j))]=0)
  (out:∀ j b,j<n->jX st q.x q.z (koB q.rs) ⟨c0,F,20000⟩ (2*j+1) ⟨zaW B b,[]⟩ []=0)
  {E:Env} (hlen:E.i 1=(E.s 0).len) (hD:∃ D,zhb (E.s 0) D) {j0:Nat} (hj0:j0<n) {sg0:List (Nat × SE)} (g1:sgA sg0 1=some (.v 1)) (g2:sgA sg0 2=some (.lit 0)) (g3:sgA sg0 3=none)
  {g0:Ctx} (h0:zd E P g0.call) {l:List V} {h00:H} {fa:Fa} (hfa:FaOk E fa)
  (hin:zaf l (fun fr=>zIn q.z g0 fr h00 fa (fun fr h _=>zc2 st [(2*j0,sgA sg0),(2*j0+1,sgA sg0)] fr h) (koB q.rs))=0)
  {ρ:Rho} {w:World} (hs:Sat E ρ h00 w) (hbd:bdL h00.n.toNat l) (jo:∀ p o,h00.t.get p=some o->o.live=true->h00.lo.toNat<=p.toNat->w.heap.size<=(ρ p).b) :
  Calls P F (γL E ρ l).toArray w fun e w'=>e=.returned (.bool true)/\Below w.heap.size w w':=by
 refine zmk hY hm hfn hc hw (st:=st) (gj:=fun _=>⟨c0,F,20000⟩) (Inv:=InvW n B) (fun m j E _=>hc0 E) ?_ h0 hfa (B.toNat+1) (leadW hr hj0 g1 g2 g3 (x:=0) rfl (Int.le_refl 0) hB.1 hlen hD (by omega)) hin hs hbd jo
 intro m j E hI
 obtain⟨hj,hlen,hD,h20,hm',hk,hu⟩:=hI
 rcases Nat.mod_two_eq_zero_or_one j with hj2 | hj2
 ·obtain⟨k1,k2,k3⟩:=hk hj2
  obtain⟨i,rfl⟩:∃ i,j=2*i:=⟨j / 2,by omega⟩
  have hi:i<n:=by omega
  refine⟨_,_,?_,go i hi,leadW hr (ht i hi) (hg1 i hi) (hg2 i hi) (hg3 i hi) (x:=E.i 2+1) ?_ (by omega) (by omega) hlen hD (by omega)⟩
  ·refine zgY ?_
   unfold fGoO
   simp only[List.mem_cons,List.not_mem_nil,or_false,forall_eq_or_imp,forall_eq]
   exact⟨za4 rfl rfl (decide_eq_false (show ¬ E.i 2<0 by omega)),za4 rfl rfl (decide_eq_true k1),za4 rfl rfl (decide_eq_true k2)⟩
  ·show jH .i64 (E.i 2+1)=_
   rw[zZ,IntKind.wrap_i64];omega
 ·obtain⟨i,rfl⟩:∃ i,j=2*i+1:=⟨j / 2,by omega⟩
  have hi:i<n:=by omega
  have hu:=hu hj2
  have fin:∀ b,(∀ c∈zaW B b,SB.den E c.1=c.2)->∃ fa nx,FaOk E fa/\jX st q.x q.z (koB q.rs) ⟨c0,F,20000⟩ (2*i+1) fa nx=0/\zdi st (InvW n B) E nx m:=
   fun b hb=>⟨_,[],zgY hb,out i b hi,fun h=>absurd rfl h⟩
  by_cases h:E.i 2<E.i 1
  ·refine fin true ?_
   show ∀ c∈[_,_],_
   simp only[List.mem_cons,List.not_mem_nil,or_false,forall_eq_or_imp,forall_eq]
   exact⟨za4 rfl rfl (decide_eq_true h),za4 rfl rfl (decide_eq_false (fun h2=>hu ⟨h,h2⟩))⟩
  ·refine fin false ?_
   show ∀ c∈[_],_
   simp only[List.mem_cons,List.not_mem_nil,or_false,forall_eq]
   exact za4 rfl rfl (decide_eq_false h)
end Go.Ev
end
