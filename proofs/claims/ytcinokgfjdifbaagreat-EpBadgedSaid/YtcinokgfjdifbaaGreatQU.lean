import Derived.Test.YtcinokgfjdifbaaGreatMQY
import Derived.Test.YtcinokgfjdifbaaGreatE7
set_option linter.unusedSimpArgs false
set_option linter.unusedVariables false
set_option maxRecDepth 100000
noncomputable section
namespace Go.Ev.X
open Go Go.Ev Go.Proofs
variable {E:Env} {f:Nat->Int} {e:Nat}
def epL:List Nat:=[3120,3124,3128]
def EpA (e:Nat):Prop:=e=3120\/e=3124\/e=3128
theorem zco (h:EpA e):e∈epL:=by
 rcases h with rfl | rfl | rfl <;> simp[epL]
theorem zoX:zW (fun e=>smK cP 38 (rdS e) && smK cR 92 (rdS e)) epL=true:=by decide +kernel
theorem zoF:zW (fun e=>smK cP 88 (wrS e) && smK cR 117 (wrS e)) epL=true:=by decide +kernel
theorem zoW (he:EpA e) (f:Nat->Int):zaO PP cP 38 [.int .i64 e] f (.tuple #[.int .u64 (f e),.int .i64 0]) f 1:=by
 have h:=zt zoX e (zco he)
 simp only[Bool.and_eq_true]at h
 have h:=zbH h.1
 exact zko hcl h.1 h.2 f
theorem zoV (he:EpA e) (f:Nat->Int):zaO PP cR 92 [.int .i64 e] f (.tuple #[.int .u64 (f e),.int .i64 0]) f 1:=by
 have h:=zt zoX e (zco he)
 simp only[Bool.and_eq_true]at h
 have h:=zbH h.2
 exact zko hcl h.1 h.2 f
theorem zli (he:EpA e) (f:Nat->Int) (x:Int):zaO PP cP 88 [.int .i64 e,.int .u64 x] f (.int .i64 0) (upd f e x) 1:=by
 have h:=zt zoF e (zco he)
 simp only[Bool.and_eq_true]at h
 have h:=zbH h.1
 exact zgq hcl h.1 h.2 f x
theorem zlh (he:EpA e) (f:Nat->Int) (x:Int):zaO PP cR 117 [.int .i64 e,.int .u64 x] f (.int .i64 0) (upd f e x) 1:=by
 have h:=zt zoF e (zco he)
 simp only[Bool.and_eq_true]at h
 have h:=zbH h.2
 exact zgq hcl h.1 h.2 f x
def eV (e:Nat):V:=.i .i64 (.ofNat e)
def qs0:SE:=.cv .i64 (.op .shr .u64 (.op .and .u64 (.v 100) (.lit 3)) (.lit 0))
def qh0:SE:=.cv .i64 (.op .shr .u64 (.op .and .u64 (.v 100) (.lit 262140)) (.lit 2))
def qt0:SE:=.cv .i64 (.op .shr .u64 (.op .and .u64 (.v 100) (.lit 17179607040)) (.lit 18))
def rs0:SE:=.cv .i64 (.op .rem .u64 (.v 100) (.lit 4))
def rh0:SE:=.cv .i64 (.op .rem .u64 (.op .shr .u64 (.v 100) (.lit 2)) (.lit 65536))
def rt0:SE:=.cv .i64 (.op .rem .u64 (.op .shr .u64 (.v 100) (.lit 18)) (.lit 65536))
def qV (a b c:V):V:=.tup [.agg [a,b,c],.i .i64 0]
def qfP:List (SB × Bool):=[(.cmp .neq (.op .shr .u64 (.v 100) (.lit 34)) (.lit 0),false),(.cmp .eql qs0 (.lit 0),false),(.cmp .leq qs0 (.lit 2),true),(.cmp .gtr qh0 (.lit 0),true),(.cmp .gtr qt0 (.lit 0),true)]
def qfR:List (SB × Bool):=[(.cmp .eql rs0 (.lit 0),false),(.cmp .geq rs0 (.lit 1),true),(.cmp .leq rs0 (.lit 2),true),(.cmp .geq rh0 (.lit 1),true),(.cmp .leq rh0 (.lit 65535),true),(.cmp .geq rt0 (.lit 1),true),(.cmp .leq rt0 (.lit 65535),true),
 (.cmp .neq (.op .add .u64 (.op .add .u64 (.cv .u64 rs0) (.op .shl .u64 (.cv .u64 rh0) (.lit 2))) (.op .shl .u64 (.cv .u64 rt0) (.lit 18))) (.v 100),false)]
def rdQ (F e:Nat) (x:V):List Ent:=[⟨F,[eV e],1,.tup [x,.i .i64 0],.v 9000⟩]
theorem zsr:zW (fun e=>Nat.beq (yP cx0 cP (rdQ 38 e (.i .u64 0)) [] 15 [eV e] ⟨[],[]⟩ (qV (.i .i64 0) (.i .i64 0) (.i .i64 0)) 1 s1) 0 && Nat.beq (yP cx0 cP (rdQ 38 e (.si .u64 (.v 100))) [] 15 [eV e] ⟨qfP,[]⟩ (qV (.si .i64 qs0) (.si .i64 qh0) (.si .i64 qt0)) 1 s1) 0) epL=true:=by decide +kernel
theorem zsq:zW (fun e=>Nat.beq (yP cx0 cR (rdQ 92 e (.i .u64 0)) [] 81 [eV e] ⟨[],[]⟩ (qV (.i .i64 0) (.i .i64 0) (.i .i64 0)) 1 s1) 0 && Nat.beq (yP cx0 cR (rdQ 92 e (.si .u64 (.v 100))) [] 81 [eV e] ⟨qfR,[]⟩ (qV (.si .i64 rs0) (.si .i64 rh0) (.si .i64 rt0)) 1 s1) 0) epL=true:=by decide +kernel
def QOk (w:Int):Prop:=w=0\/((stQ w=1\/stQ w=2)/\0<hdQ w/\0<tlQ w/\0<=w/\w<17179869184)
def qT (s h t:Int):Value:=.tuple #[.agg #[.int .i64 s,.int .i64 h,.int .i64 t],.int .i64 0]
def zeP (w:Int):Nat->Int:=fun i=>match i / 100 with
 | 1=>w
 | _=>1
theorem agg3 {ρ:Rho} {x y z:V} {a b c:Value} (h1:x.γ E ρ=a) (h2:y.γ E ρ=b) (h3:z.γ E ρ=c):(V.agg [x,y,z]).γ E ρ=.agg #[a,b,c]:=by simp only[V.γ,γL,h1,h2,h3]
theorem qV_ok {ρ:Rho} {x y z:SE} {a b c:Int} (h1:x.den E=a) (h2:y.den E=b) (h3:z.den E=c):(qV (.si .i64 x) (.si .i64 y) (.si .i64 z)).γ E ρ=qT a b c:=tup2 (agg3 (vsi h1) (vsi h2) (vsi h3)) rfl
theorem que_p (he:EpA e) (hw:QOk (f e)):zJ PP cP 15 [.int .i64 e] f (qT (stQ (f e)) (hdQ (f e)) (tlQ (f e))) f:=by
 have hr:=zt zsr e (zco he)
 simp only[Bool.and_eq_true,Nat.beq_eq]at hr
 rcases hw with h0 | ⟨hs,hh,ht,w0,w1⟩
 ·rw[h0]
  refine zH (k:=0) (zD hC0 (by decide) hr.1 rfl (zeP 0) (fun _=>f) fun st=>⟨zc (k:=0) (m:=1) rfl rfl (by omega),zm trivial trivial,⟨zi (zoW he f) (by omega) rfl (fun ρ=>rfl) (fun ρ=>?_),trivial⟩,zn trivial,fun ρ=>rfl,fun ρ=>rfl⟩)
  rw[h0];rfl
 ·refine zH (k:=0) (zD hC0 (by decide) hr.2 rfl (zeP (f e)) (fun _=>f) fun st=>?_)
  have v:SE.den (jA cP.N st (zeP (f e)) (fun _=>f)) (.v 100)=f e:=rfl
  have e1:SE.den (jA cP.N st (zeP (f e)) (fun _=>f)) qs0=stQ (f e):=by
   have:=zgG (M:=3) 0 2 (by decide) (by omega) v w0 (by omega)
   refine(yf this (by omega) (by omega)).trans ?_
   unfold stQ
   omega
  have e2:SE.den (jA cP.N st (zeP (f e)) (fun _=>f)) qh0=hdQ (f e):=by
   have:=zgG (M:=262140) 2 16 (by decide) (by omega) v w0 (by omega)
   exact(yf this (by omega) (by omega)).trans (by unfold hdQ;rfl)
  have e3:SE.den (jA cP.N st (zeP (f e)) (fun _=>f)) qt0=tlQ (f e):=by
   have:=zgG (M:=17179607040) 18 16 (by decide) (by omega) v w0 (by omega)
   exact(yf this (by omega) (by omega)).trans (by unfold tlQ;rfl)
  have e4:SE.den (jA cP.N st (zeP (f e)) (fun _=>f)) (.op .shr .u64 (.v 100) (.lit 34))=0:=(yA (A:=17179869184) 34 rfl (by omega) v w0).trans (by omega)
  exact⟨zc (k:=0) (m:=1) rfl rfl (by omega),zm ⟨yu e4,yM (by rw[e1];show stQ (f e)≠0;omega),za4 (by rw[e1];show stQ (f e)<=2;omega),f_gt (by rw[e2];exact hh),f_gt (by rw[e3];exact ht),trivial⟩ trivial,
   ⟨zi (zoW he f) (by omega) rfl (fun ρ=>rfl) (fun ρ=>rfl),trivial⟩,zn trivial,fun ρ=>rfl,fun ρ=>qV_ok e1 e2 e3⟩
theorem que_r (he:EpA e) (hw:QOk (f e)):zJ PP cR 81 [.int .i64 e] f (qT (stQ (f e)) (hdQ (f e)) (tlQ (f e))) f:=by
 have hr:=zt zsq e (zco he)
 simp only[Bool.and_eq_true,Nat.beq_eq]at hr
 rcases hw with h0 | ⟨hs,hh,ht,w0,w1⟩
 ·rw[h0]
  refine zH (k:=0) (zD hC0 (by decide) hr.1 rfl (zeP 0) (fun _=>f) fun st=>⟨zc (k:=0) (m:=1) rfl rfl (by omega),zm trivial trivial,⟨zi (zoV he f) (by omega) rfl (fun ρ=>rfl) (fun ρ=>?_),trivial⟩,zn trivial,fun ρ=>rfl,fun ρ=>rfl⟩)
  rw[h0];rfl
 ·refine zH (k:=0) (zD hC0 (by decide) hr.2 rfl (zeP (f e)) (fun _=>f) fun st=>?_)
  have v:SE.den (jA cR.N st (zeP (f e)) (fun _=>f)) (.v 100)=f e:=rfl
  have e1:SE.den (jA cR.N st (zeP (f e)) (fun _=>f)) rs0=stQ (f e):=yf (yw v w0) (by omega) (by omega)
  have b2:0<=hdQ (f e)/\hdQ (f e)<65536:=by unfold hdQ;omega
  have b3:0<=tlQ (f e)/\tlQ (f e)<65536:=by unfold tlQ;omega
  have e2:SE.den (jA cR.N st (zeP (f e)) (fun _=>f)) rh0=hdQ (f e):=yf (yw (yA (A:=4) 2 rfl (by omega) v w0) (by omega)) b2.1 (show hdQ (f e)<=_ by omega)
  have e3:SE.den (jA cR.N st (zeP (f e)) (fun _=>f)) rt0=tlQ (f e):=yf (yw (yA (A:=262144) 18 rfl (by omega) v w0) (by omega)) b3.1 (show tlQ (f e)<=_ by omega)
  have e4:SE.den (jA cR.N st (zeP (f e)) (fun _=>f)) (.op .add .u64 (.op .add .u64 (.cv .u64 rs0) (.op .shl .u64 (.cv .u64 rh0) (.lit 2))) (.op .shl .u64 (.cv .u64 rt0) (.lit 18)))=f e:=by
   have g1:=yj e1 (by omega) (by omega)
   have g2:=yN (A:=4) 2 rfl (by omega) (yj e2 b2.1 (by omega)) b2.1 (by omega)
   have g3:=yN (A:=262144) 18 rfl (by omega) (yj e3 b3.1 (by omega)) b3.1 (by omega)
   refine(yq (yq g1 g2 (by omega) (by omega)) g3 (by omega) (by omega)).trans ?_
   unfold stQ hdQ tlQ
   omega
  exact⟨zc (k:=0) (m:=1) rfl rfl (by omega),zm ⟨yM (by rw[e1];show stQ (f e)≠0;omega),zbh (by rw[e1];show 1<=stQ (f e);omega),za4 (by rw[e1];show stQ (f e)<=2;omega),zbh (by rw[e2];show 1<=hdQ (f e);omega),za4 (by rw[e2];show hdQ (f e)<=65535;omega),zbh (by rw[e3];show 1<=tlQ (f e);omega),za4 (by rw[e3];show tlQ (f e)<=65535;omega),yu (e4.trans v.symm),trivial⟩ trivial,
   ⟨zi (zoV he f) (by omega) rfl (fun ρ=>rfl) (fun ρ=>rfl),trivial⟩,zn trivial,fun ρ=>rfl,fun ρ=>qV_ok e1 e2 e3⟩
def wfP:List (SB × Bool):=[(.cmp .lss (.v 1) (.lit 0),false),(.cmp .lss (.v 2) (.lit 0),false),(.cmp .neq (.op .shr .u64 (.op .shl .u64 (.cv .u64 (.v 1)) (.lit 2)) (.lit 2)) (.cv .u64 (.v 1)),false),(.cmp .neq (.op .andNot .u64 (.op .shl .u64 (.cv .u64 (.v 1)) (.lit 2)) (.lit 262140)) (.lit 0),false),
 (.cmp .neq (.op .shr .u64 (.op .shl .u64 (.cv .u64 (.v 2)) (.lit 18)) (.lit 18)) (.cv .u64 (.v 2)),false),(.cmp .neq (.op .andNot .u64 (.op .shl .u64 (.cv .u64 (.v 2)) (.lit 18)) (.lit 17179607040)) (.lit 0),false),(.cmp .gtr (.v 1) (.lit 0),true),(.cmp .gtr (.v 2) (.lit 0),true)]
def wfR:List (SB × Bool):=[(.cmp .geq (.v 1) (.lit 1),true),(.cmp .leq (.v 1) (.lit 65535),true),(.cmp .geq (.v 2) (.lit 1),true),(.cmp .leq (.v 2) (.lit 65535),true)]
def wwP (s:Nat):SE:=.op .or .u64 (.op .andNot .u64 (.op .or .u64 (.lit (.ofNat s)) (.op .shl .u64 (.cv .u64 (.v 1)) (.lit 2))) (.lit 17179607040)) (.op .shl .u64 (.cv .u64 (.v 2)) (.lit 18))
def wwR (s:Nat):SE:=.op .add .u64 (.op .add .u64 (.lit (.ofNat s)) (.op .shl .u64 (.cv .u64 (.v 1)) (.lit 2))) (.op .shl .u64 (.cv .u64 (.v 2)) (.lit 18))
def wrQ (F e:Nat) (x:V):List Ent:=[⟨F,[eV e,x],1,.i .i64 0,.v 9000⟩]
def qA (s:Nat):V:=.agg [.i .i64 (.ofNat s),.si .i64 (.v 1),.si .i64 (.v 2)]
def qZ:V:=.agg [.i .i64 0,.i .i64 0,.i .i64 0]
theorem sqP_run:zW (fun e=>Nat.beq (yP cx0 cP (wrQ 88 e (.i .u64 0)) [] 82 [eV e,qZ] ⟨[],[]⟩ (.i .i64 0) 1 s1) 0 && zW (fun s=>Nat.beq (yP cx0 cP (wrQ 88 e (.si .u64 (wwP s))) [] 82 [eV e,qA s] ⟨wfP,[]⟩ (.i .i64 0) 1 s1) 0) (zb1 1 2)) epL=true:=by decide +kernel
theorem sqR_run:zW (fun e=>Nat.beq (yP cx0 cR (wrQ 117 e (.i .u64 0)) [] 127 [eV e,qZ] ⟨[],[]⟩ (.i .i64 0) 1 s1) 0 && zW (fun s=>Nat.beq (yP cx0 cR (wrQ 117 e (.si .u64 (wwR s))) [] 127 [eV e,qA s] ⟨wfR,[]⟩ (.i .i64 0) 1 s1) 0) (zb1 1 2)) epL=true:=by decide +kernel
def QFit (s h t:Int):Prop:=(s=0/\h=0/\t=0)\/((s=1\/s=2)/\(0<h/\h<65536)/\0<t/\t<65536)
def aggQ (s h t:Int):Value:=.agg #[.int .i64 s,.int .i64 h,.int .i64 t]
def zg5 (h t:Int):Nat->Int:=fun i=>if i=1 then h else if i=2 then t else 1
theorem sque_p (he:EpA e) {s h t:Int} (hq:QFit s h t) (f:Nat->Int):zJ PP cP 82 [.int .i64 e,aggQ s h t] f (.int .i64 0) (upd f e (qwV s h t)):=by
 have hr:=zt sqP_run e (zco he)
 simp only[Bool.and_eq_true,Nat.beq_eq]at hr
 rcases hq with ⟨rfl,rfl,rfl⟩ | ⟨hs,⟨h0,h1⟩,t0,t1⟩
 ·exact zH (k:=0) (zD hC0 (by decide) hr.1 rfl (zg5 0 0) (fun q=>if q=0 then f else upd f e 0) fun st=>⟨zc (k:=0) (m:=1) rfl rfl (by omega),zm trivial trivial,⟨zi (zli he f 0) (by omega) rfl (fun ρ=>rfl) (fun ρ=>rfl),trivial⟩,zn trivial,fun ρ=>rfl,fun ρ=>rfl⟩)
 ·obtain⟨n,rfl,hn⟩:∃ n:Nat,s=n/\(n=1\/n=2):=by
   rcases hs with rfl | rfl
   ·exact⟨1,rfl,.inl rfl⟩
   ·exact⟨2,rfl,.inr rfl⟩
  have zr:=Nat.eq_of_beq_eq_true (zt hr.2 n (jO (by omega) (by omega)))
  refine zH (k:=0) (zD hC0 (by decide) zr rfl (zg5 h t) (fun q=>if q=0 then f else upd f e (qwV n h t)) fun st=>?_)
  have v1:(jA cP.N st (zg5 h t) (fun q=>if q=0 then f else upd f e (qwV n h t))).i 1=h:=rfl
  have v2:(jA cP.N st (zg5 h t) (fun q=>if q=0 then f else upd f e (qwV n h t))).i 2=t:=rfl
  have e0:SE.den (jA cP.N st (zg5 h t) (fun q=>if q=0 then f else upd f e (qwV n h t))) (.op .or .u64 (.lit (.ofNat n)) (.op .shl .u64 (.cv .u64 (.v 1)) (.lit 2)))=n+h*4:=by
   obtain⟨u,rfl⟩:=Int.eq_ofNat_of_zero_le (show 0<=h by omega)
   have g:=yN (A:=4) 2 rfl (by omega) (yj (e:=.v 1) v1 (by omega) (by omega)) (by omega) (by omega)
   show arS .or .u64 (n:Nat) (SE.den _ (.op .shl .u64 (.cv .u64 (.v 1)) (.lit (2:Nat))))=_
   rw[g,show ((u:Nat):Int)*4=((u*4:Nat):Int) from by omega,zh4 n (u*4) (by omega) (by omega)]
   have:Nat.lor n (u*4)=n+u*4:=by
    have:=Nat.or_comm n (u*4)
    show n ||| u*4=_
    rw[this,show u*4=2 ^ 2*u from by omega,<- Nat.two_pow_add_eq_or_of_lt (by omega:n<2 ^ 2) u]
    omega
   rw[this];omega
  have e1:=wD (i:=2) (x:=t) (A:=262144) (M:=17179607040) 18 16 rfl rfl (by decide) e0 (by omega) (by omega) v2 (by omega) (by show t<65536;omega)
  exact⟨zc (k:=0) (m:=1) rfl rfl (by omega),zm ⟨zjq (show (0:Int)<=h by omega),zjq (show (0:Int)<=t by omega),cB (x:=h) 2 16 (by decide) v1 (by omega) (by show h<65536;omega),cC (x:=h) 2 16 rfl (by decide) v1 (by omega) (by show h<65536;omega),cB (x:=t) 18 16 (by decide) v2 (by omega) (by show t<65536;omega),cC (x:=t) 18 16 rfl (by decide) v2 (by omega) (by show t<65536;omega),f_gt (show (0:Int)<h from h0),f_gt (show (0:Int)<t from t0),trivial⟩ trivial,
   ⟨zi (zli he f (qwV n h t)) (by omega) rfl (fun ρ=>by
    show [_,Value.int .u64 (SE.den _ (wwP n))]=_
    rw[show SE.den (jA cP.N st (zg5 h t) (fun q=>if q=0 then f else upd f e (qwV n h t))) (wwP n)=_ from e1];rfl) (fun ρ=>rfl),trivial⟩,zn trivial,fun ρ=>rfl,fun ρ=>rfl⟩
theorem sque_r (he:EpA e) {s h t:Int} (hq:QFit s h t) (f:Nat->Int):zJ PP cR 127 [.int .i64 e,aggQ s h t] f (.int .i64 0) (upd f e (qwV s h t)):=by
 have hr:=zt sqR_run e (zco he)
 simp only[Bool.and_eq_true,Nat.beq_eq]at hr
 rcases hq with ⟨rfl,rfl,rfl⟩ | ⟨hs,⟨h0,h1⟩,t0,t1⟩
 ·exact zH (k:=0) (zD hC0 (by decide) hr.1 rfl (zg5 0 0) (fun q=>if q=0 then f else upd f e 0) fun st=>⟨zc (k:=0) (m:=1) rfl rfl (by omega),zm trivial trivial,⟨zi (zlh he f 0) (by omega) rfl (fun ρ=>rfl) (fun ρ=>rfl),trivial⟩,zn trivial,fun ρ=>rfl,fun ρ=>rfl⟩)
 ·obtain⟨n,rfl,hn⟩:∃ n:Nat,s=n/\(n=1\/n=2):=by
   rcases hs with rfl | rfl
   ·exact⟨1,rfl,.inl rfl⟩
   ·exact⟨2,rfl,.inr rfl⟩
  have zr:=Nat.eq_of_beq_eq_true (zt hr.2 n (jO (by omega) (by omega)))
  refine zH (k:=0) (zD hC0 (by decide) zr rfl (zg5 h t) (fun q=>if q=0 then f else upd f e (qwV n h t)) fun st=>?_)
  have v1:(jA cR.N st (zg5 h t) (fun q=>if q=0 then f else upd f e (qwV n h t))).i 1=h:=rfl
  have v2:(jA cR.N st (zg5 h t) (fun q=>if q=0 then f else upd f e (qwV n h t))).i 2=t:=rfl
  have g1:=yN (A:=4) 2 rfl (by omega) (yj (e:=.v 1) v1 (by omega) (by omega)) (by omega) (by omega)
  have g2:=yN (A:=262144) 18 rfl (by omega) (yj (e:=.v 2) v2 (by omega) (by omega)) (by omega) (by omega)
  have e1:=yq (yq (a:=.lit (.ofNat n)) (x:=n) rfl g1 (by omega) (by omega)) g2 (by omega) (by omega)
  exact⟨zc (k:=0) (m:=1) rfl rfl (by omega),zm ⟨zbh (show (1:Int)<=h by omega),za4 (show h<=(65535:Int) by omega),zbh (show (1:Int)<=t by omega),za4 (show t<=(65535:Int) by omega),trivial⟩ trivial,
   ⟨zi (zlh he f (qwV n h t)) (by omega) rfl (fun ρ=>by
    show [_,Value.int .u64 (SE.den _ (wwR n))]=_
    rw[show SE.den (jA cR.N st (zg5 h t) (fun q=>if q=0 then f else upd f e (qwV n h t))) (wwR n)=_ from e1];rfl) (fun ρ=>rfl),trivial⟩,zn trivial,fun ρ=>rfl,fun ρ=>rfl⟩
end Go.Ev.X
end
