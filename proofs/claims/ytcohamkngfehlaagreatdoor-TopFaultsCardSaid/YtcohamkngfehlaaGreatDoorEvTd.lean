import Derived.Test.YtcohamkngfehlaaGreatDoorE5
import Derived.Test.YtcohamkngfehlaaGreatDoorEvG3
set_option linter.unusedSimpArgs false
set_option linter.unusedVariables false
noncomputable section
namespace Go.Ev
open Go Go.RowKit
variable {E:Env} {P:Program}
def rowsG (g:Nat->List V) (h:H):Bool:=hc h (fun _ _ t=>zfZ (fun _ o=>match o with
 | .row q z N I l=>Nat.beq z 1 && SE.beq I (.v 2) && jk l (g q)
 | _=>true) (fun p=>p) t)
theorem zjw {g:Nat->List V} {h:H} (hr:rowsG g h=true)
  (hg:∀ q,g q≠[]->E.i 2=(E.s q).idx/\(E.s q).idx<(E.s q).len/\∃ v,g q=[v]/\∀ ρ,(E.s q).cs[(E.s q).off+(E.s q).idx]? = some (v.γ E ρ)):∀ p o,h.t.get p=some o->zmJ E o:=by
 intro p o hp
 unfold rowsG at hr
 rw[jJ]at hr
 have:=zcZ _ _ p o hr hp
 cases o with
 | row q z N I l=>
  simp only[Bool.and_eq_true,Nat.beq_eq]at this
  obtain⟨⟨rfl,hI⟩,hl'⟩:=this
  have hI:=SE.beq_eq hI
  have hl':=jG hl'
  subst hI;subst hl'
  intro hne
  obtain⟨h2,hl,v,hv,hc⟩:=hg q hne
  refine⟨h2,hl,by rw[hv];rfl,fun ρ i hi=>?_⟩
  rw[hv]at hi ⊢
  have:i=0:=by simpa using hi
  subst this
  rw[Nat.mul_one,Nat.add_zero,hc ρ]
  rfl
 | _=>trivial
def g2 (a b:List V) (q:Nat):List V:=bc (Nat.beq q 0) a (bc (Nat.beq q 1) b [])
theorem g2_or {a b:List V} {q:Nat} (h:g2 a b q≠[]):q=0\/q=1:=by
 match q,h with
 | 0,_=>exact .inl rfl
 | 1,_=>exact .inr rfl
 | q+2,h=>exact absurd (show g2 a b (q+2)=[] from rfl) h
def numV (v:Nat) (q:Nat):List V:=bc (Nat.beq v 1) [] (g2 [.si .i64 (.v 3)] [.si .i64 (.v 4)] q)
def zeX (st:Nat->GS) (j v:Nat):Bool:=rowsG (numV v) (st (2*j+v)).h
def nxQ (K0 K1:Int) (σ:Sg) (E:Env) (D0 D1:Nat->Int) (x:Int):Env:=⟨fun i=>if i=3 then D0 x.toNat else if i=4 then D1 x.toNat else if i=6 then jT (D1 x.toNat) K1 else if i=7 then jT (D0 x.toNat) K0 else match σ i with
 | some s=>s.den E
 | none=>0,E.b,fun q=>if q<50 then { E.s q with idx:=x.toNat } else zkC σ E q⟩
theorem nxQ_tr {K0 K1:Int} {σ:Sg} (h3:σ 3=none) (h4:σ 4=none) (h6:σ 6=none) (h7:σ 7=none) (E:Env) (D0 D1:Nat->Int) (x:Int):TrE σ E (nxQ K0 K1 σ E D0 D1 x):=by
 refine⟨fun i s h=>?_,rfl,fun q hq=>?_,fun q q' hq h=>?_⟩
 rotate_left
 ·show zgI (if q<50 then { E.s q with idx:=x.toNat } else zkC σ E q) _
  rw[if_pos hq]
  exact⟨rfl,rfl,rfl,rfl,rfl,rfl,rfl,rfl⟩
 ·show (if q<50 then { E.s q with idx:=x.toNat } else zkC σ E q:Row).cs=_
  rw[if_neg (by omega)]
  unfold zkC
  rw[if_neg (by omega),h]
 by_cases e3:i=3
 ·subst e3;rw[h3]at h;cases h
 by_cases e4:i=4
 ·subst e4;rw[h4]at h;cases h
 by_cases e6:i=6
 ·subst e6;rw[h6]at h;cases h
 by_cases e7:i=7
 ·subst e7;rw[h7]at h;cases h
 show (if i=3 then _ else if i=4 then _ else if i=6 then _ else if i=7 then _ else _)=_
 rw[if_neg e3,if_neg e4,if_neg e6,if_neg e7,h]
def I64 (x:Int):Prop:=-9223372036854775808<=x/\x<=9223372036854775807
def InvQ (K0 K1:Int) (n:Nat) (B:Int) (m j:Nat) (E:Env):Prop:=j<2*n/\E.i 1=(E.s 0).len/\E.i 8=(E.s 1).len/\(∃ D,zhk (E.s 0) D)/\(∃ D,zhk (E.s 1) D)/\0<=E.i 2/\(m:Int)+E.i 2=B /\
 (j % 2=0->E.i 2<E.i 1/\E.i 2<E.i 8/\E.i 2<B/\I64 (E.i 3)/\I64 (E.i 4)/\E.i 6=jT (E.i 4) K1/\E.i 7=jT (E.i 3) K0)/\(j % 2=1->¬ (E.i 2<E.i 1/\E.i 2<E.i 8/\E.i 2<B))
def nx2 (t:Nat) (s:List (Nat × SE)):List (Nat × Sg):=[(2*t,sgA s),(2*t+1,sgA s)]
theorem leadQ {K0 K1:Int} {n:Nat} {B:Int} {st:Nat->GS} (hr:∀ j v,j<n->v<2->zeX st j v=true) {m j:Nat} (hj:j<n) {sg:List (Nat × SE)} {s2:SE} {x:Int}
  (g1:sgA sg 1=some (.v 1)) (g8:sgA sg 8=some (.v 8)) (g2':sgA sg 2=some s2) (g3:sgA sg 3=none) (g4:sgA sg 4=none) (g6:sgA sg 6=none) (g7:sgA sg 7=none) (hx:s2.den E=x) (hx0:0<=x) (hxB:x<=B) (hlen:E.i 1=(E.s 0).len) (hlen2:E.i 8=(E.s 1).len) (hD:∃ D,zhk (E.s 0) D) (hD2:∃ D,zhk (E.s 1) D) (hm:B - x<m) :
  zgt st (InvQ K0 K1 n B) E (nx2 j sg) m:=by
 intro _
 obtain⟨D,hD⟩:=hD
 obtain⟨D2,hD2⟩:=hD2
 have t:=nxQ_tr (K0:=K0) (K1:=K1) g3 g4 g6 g7 E D D2 x
 have e1:(nxQ K0 K1 (sgA sg) E D D2 x).i 1=E.i 1:=t.i 1 _ g1
 have e8:(nxQ K0 K1 (sgA sg) E D D2 x).i 8=E.i 8:=t.i 8 _ g8
 have e2:(nxQ K0 K1 (sgA sg) E D D2 x).i 2=x:=(t.i 2 _ g2').trans hx
 have i2:(nxQ K0 K1 (sgA sg) E D D2 x).i 2=((x.toNat:Nat):Int):=by omega
 by_cases hk:x<(E.s 0).len/\x<(E.s 1).len/\x<B
 ·have hd:=hD x.toNat (by omega)
  have hd2:=hD2 x.toNat (by omega)
  refine⟨2*j,_,(B - x).toNat,nxQ K0 K1 (sgA sg) E D D2 x,by simp[nx2],by omega,⟨by omega,e1.trans hlen,e8.trans hlen2,⟨D,hD⟩,⟨D2,hD2⟩,by omega,by omega,fun _=>⟨by omega,by omega,by omega,hd.2,hd2.2,rfl,rfl⟩,fun h=>by omega⟩,t,zjw (hr j 0 hj (by omega)) ?_⟩
  intro q hq
  rcases g2_or (show g2 [.si .i64 (.v 3)] [.si .i64 (.v 4)] q≠[] from hq) with rfl | rfl
  ·exact⟨i2,show x.toNat<(E.s 0).len by omega,_,rfl,fun ρ=>hd.1⟩
  ·exact⟨i2,show x.toNat<(E.s 1).len by omega,_,rfl,fun ρ=>hd2.1⟩
 ·refine⟨2*j+1,_,(B - x).toNat,nxQ K0 K1 (sgA sg) E D D2 x,by simp[nx2],by omega,⟨by omega,e1.trans hlen,e8.trans hlen2,⟨D,hD⟩,⟨D2,hD2⟩,by omega,by omega,fun h=>by omega,fun _ h=>hk ⟨by omega,by omega,by omega⟩⟩,t,zjw (hr j 1 hj (by omega)) ?_⟩
  intro q hq
  exact absurd rfl hq
def fGoQ (B:Int) (b:Bool):List (SB × Bool):=[(.cmp .lss (.v 2) (.v 1),true),(.cmp .lss (.v 2) (.v 8),true),(.cmp .lss (.v 2) (.lit B),true),(.cmp .eql (.v 7) (.lit 0),b)]
def zde (B:Int) (e:Nat):List (SB × Bool):=bc (Nat.beq e 0) [(.cmp .lss (.v 2) (.v 1),false)] (bc (Nat.beq e 1) [(.cmp .lss (.v 2) (.v 1),true),(.cmp .lss (.v 2) (.v 8),false)] [(.cmp .lss (.v 2) (.v 1),true),(.cmp .lss (.v 2) (.v 8),true),(.cmp .lss (.v 2) (.lit B),false)])
theorem zlc {Y:Ty} (hY:TyOk P Y) (hm:P.follows .mixedOrders=true) {dr:Nat->Option Dr} {F:Nat} {f:Func} {q:CutX} (hfn:P.funcs[F]? = some f) (hc:cutX Y dr f=some q) (hw:zbD dr f=true)
  {K0 K1:Int} {n:Nat} {B:Int} (hB:0<=B/\B<4611686018427387904) {st:Nat->GS} {t:Nat->Bool->Nat} {sg:Nat->Bool->List (Nat × SE)} {fx:Bool->List (SB × Bool)} {cp c0:zw} (hc0:∀ E,zc E P c0)
  (hcp:∀ E,I64 (E.i 3)->I64 (E.i 4)->E.i 6=jT (E.i 4) K1->E.i 7=jT (E.i 3) K0->zc E P cp)
  (hfx:∀ (E:Env) b,I64 (E.i 3)->I64 (E.i 4)->E.i 6=jT (E.i 4) K1->E.i 7=jT (E.i 3) K0->∀ c∈fx b,SB.den E c.1=c.2)
  (ht:∀ j b,j<n->t j b<n) (hg:∀ j b,j<n->sgA (sg j b) 1=some (.v 1)/\sgA (sg j b) 8=some (.v 8)/\sgA (sg j b) 2=some (.op .add .i64 (.v 2) (.lit 1))/\sgA (sg j b) 3=none/\sgA (sg j b) 4=none/\sgA (sg j b) 6=none/\sgA (sg j b) 7=none)
  (hr:∀ j v,j<n->v<2->zeX st j v=true)
  (go:∀ j b,j<n->zbL st q.x q.z (koB q.rs) ⟨cp,F,20000⟩ (2*j) ⟨fGoQ B b ++ fx b,[]⟩ (nx2 (t j b) (sg j b))=0)
  (out:∀ j e,j<n->e<3->zbL st q.x q.z (koB q.rs) ⟨c0,F,20000⟩ (2*j+1) ⟨zde B e,[]⟩ []=0)
  {E:Env} (hlen:E.i 1=(E.s 0).len) (hlen2:E.i 8=(E.s 1).len) (hD:∃ D,zhk (E.s 0) D) (hD2:∃ D,zhk (E.s 1) D) {j0:Nat} (hj0:j0<n) {sg0:List (Nat × SE)} (g1:sgA sg0 1=some (.v 1)) (g8:sgA sg0 8=some (.v 8)) (g2:sgA sg0 2=some (.lit 0)) (g3:sgA sg0 3=none) (g4:sgA sg0 4=none) (g6:sgA sg0 6=none) (g7:sgA sg0 7=none)
  {g0:Ctx} (h0:zc E P g0.call) {l:List V} {h00:H} {fa:Fa} (hfa:FaOk E fa)
  (hin:za2 l (fun fr=>zIn q.z g0 fr h00 fa (fun fr h _=>ze8 st (nx2 j0 sg0) fr h) (koB q.rs))=0)
  {ρ:Rho} {w:World} (hs:Sat E ρ h00 w) (hbd:bdL h00.n.toNat l) (jV:∀ p o,h00.t.get p=some o->o.live=true->h00.lo.toNat<=p.toNat->w.heap.size<=(ρ p).b) :
  Calls P F (γL E ρ l).toArray w fun e w'=>e=.returned (.bool true)/\Below w.heap.size w w':=by
 refine zq8 hY hm hfn hc hw (st:=st) (Inv:=InvQ K0 K1 n B) ?_ h0 hfa (B.toNat+1) (leadQ hr hj0 g1 g8 g2 g3 g4 g6 g7 (x:=0) rfl (Int.le_refl 0) hB.1 hlen hlen2 hD hD2 (by omega)) hin hs hbd jV
 intro m j E hI
 obtain⟨hj,hlen,hlen2,hD,hD2,h20,hm',hk,hu⟩:=hI
 rcases Nat.mod_two_eq_zero_or_one j with hj2 | hj2
 ·obtain⟨k1,k2,k3,k4,k5,k6,k7⟩:=hk hj2
  obtain⟨i,rfl⟩:∃ i,j=2*i:=⟨j / 2,by omega⟩
  have hi:i<n:=by omega
  have go':∀ b,iEq (E.i 7) 0=b->∃ g fa nx,zc E P g.call/\FaOk E fa/\zbL st q.x q.z (koB q.rs) g (2*i) fa nx=0/\zgt st (InvQ K0 K1 n B) E nx m:=by
   intro b hb
   obtain⟨s1,s8,s2,s3,s4,s6,s7⟩:=hg i b hi
   refine⟨⟨cp,F,20000⟩,_,_,hcp E k4 k5 k6 k7,fx_all (hfx E b k4 k5 k6 k7) ?_,go i b hi,leadQ hr (ht i b hi) s1 s8 s2 s3 s4 s6 s7 (x:=E.i 2+1) ?_ (by omega) (by omega) hlen hlen2 hD hD2 (by omega)⟩
   ·unfold fGoQ
    simp only[List.mem_cons,List.not_mem_nil,or_false,forall_eq_or_imp,forall_eq]
    exact⟨zby rfl rfl (decide_eq_true k1),zby rfl rfl (decide_eq_true k2),zby rfl rfl (decide_eq_true k3),hb⟩
   ·show js .i64 (E.i 2+1)=_
    rw[zX,IntKind.wrap_i64];omega
  exact go' _ rfl
 ·obtain⟨i,rfl⟩:∃ i,j=2*i+1:=⟨j / 2,by omega⟩
  have hi:i<n:=by omega
  have hu:=hu hj2
  have fin:∀ e,e<3->(∀ c∈zde B e,SB.den E c.1=c.2)->∃ g fa nx,zc E P g.call/\FaOk E fa/\zbL st q.x q.z (koB q.rs) g (2*i+1) fa nx=0/\zgt st (InvQ K0 K1 n B) E nx m:=
   fun e he hb=>⟨⟨c0,F,20000⟩,_,[],hc0 E,zg6 hb,out i e hi he,fun h=>absurd rfl h⟩
  by_cases h:E.i 2<E.i 1
  ·by_cases h':E.i 2<E.i 8
   ·refine fin 2 (by omega) ?_
    show ∀ c∈[_,_,_],_
    simp only[List.mem_cons,List.not_mem_nil,or_false,forall_eq_or_imp,forall_eq]
    exact⟨zby rfl rfl (decide_eq_true h),zby rfl rfl (decide_eq_true h'),zby rfl rfl (decide_eq_false (fun h2=>hu ⟨h,h',h2⟩))⟩
   ·refine fin 1 (by omega) ?_
    show ∀ c∈[_,_],_
    simp only[List.mem_cons,List.not_mem_nil,or_false,forall_eq_or_imp,forall_eq]
    exact⟨zby rfl rfl (decide_eq_true h),zby rfl rfl (decide_eq_false h')⟩
  ·refine fin 0 (by omega) ?_
   show ∀ c∈[_],_
   simp only[List.mem_cons,List.not_mem_nil,or_false,forall_eq]
   exact zby rfl rfl (decide_eq_false h)
end Go.Ev
end
