import Derived.Test.YtcinokgfjdifbaaGreatMBa
import Derived.Test.YtcinokgfjdifbaaGreatMBc
set_option linter.unusedSimpArgs false
set_option linter.unusedVariables false
set_option maxRecDepth 100000
noncomputable section
namespace Go.Ev.X
open Go Go.Ev Go.Proofs
class SubT (TT:Nat->Prop):Prop where
 sub:∀ t,TT t->t=1024\/t=1088\/t=1152\/t=1216
variable {TT:Nat->Prop} [SubT TT]
theorem zd:Thr TT:=⟨fun t h=>by have:=SubT.sub t h;omega,fun t h=>by have:=SubT.sub t h;omega,fun t u h h2 h3=>by have:=SubT.sub t h;have:=SubT.sub u h2;unfold zbf;omega⟩
theorem zdL {t:Nat} (h:TT t):t∈zjT:=by
 rcases SubT.sub t h with rfl | rfl | rfl | rfl <;> simp[zjT]
theorem zbN (b:Bool):b∈zbE:=by cases b <;> simp[zbE]
theorem zfv {a:Nat} (ha:a<512) (f:Nat->Int):zaO PP cP 38 [.int .i64 a] f (.tuple #[.int .u64 (f a),.int .i64 0]) f 1:=
 have h:=zbH (rng_ok rdP_run a ha)
 zko hcl h.1 h.2 f
theorem zjI {a:Nat} (ha:a<512) (f:Nat->Int) (x:Int):zaO PP cP 88 [.int .i64 a,.int .u64 x] f (.int .i64 0) (upd f a x) 1:=
 have h:=zbH (rng_ok wrP_run a ha)
 zgq hcl h.1 h.2 f x
theorem jy {f:Nat->Int} {t:Nat} (ht:TT t) (h:RightAt f t):zaO PP cP 13 [.int .i64 t] f (.tuple #[thV (za f t) (zp f t),.int .i64 0]) f 20:=
 have k:=zbH (zt thP_run t (zdL ht))
 zrw hcl k.1 k.2 h
theorem zaA {f:Nat->Int} {t:Nat} (ht:TT t) {v:TV} (h:v.Right):zaO PP cP 59 [.int .i64 t,thV v (zp f t)] f (.int .i64 0) (zg f t v) 20:=
 have k:=zbH (zt (zt (zt (zt stP_run t (zdL ht)) v.q (zbN _)) v.g (zbN _)) v.c (zbN _))
 zlK hcl k.1 k.2 h
end Go.Ev.X
end
set_option linter.unusedSimpArgs false
set_option linter.unusedVariables false
set_option maxRecDepth 100000
noncomputable section
namespace Go.Ev.X
open Go Go.Ev Go.Proofs
variable {E:Env} {f:Nat->Int}
def s1:SE:=.op .add .i64 (.v 5) (.v 9000)
def s2:SE:=.op .add .i64 s1 (.v 9001)
def s3:SE:=.op .add .i64 s2 (.v 9002)
def s4:SE:=.op .add .i64 s3 (.v 9003)
def s5:SE:=.op .add .i64 s4 (.v 9004)
def s6:SE:=.op .add .i64 s5 (.v 9005)
def s7:SE:=.op .add .i64 s6 (.v 9006)
def s8:SE:=.op .add .i64 s7 (.v 9007)
def ksL (l:List Nat) (j:Nat):Int:=(l.getD j 0:Nat)
def rdV (b:Nat):V:=.tup [.si .u64 (.v b),.i .i64 0]
def endsEs (c:Nat) (p:Nat):List Ent:=[⟨c,[.i .i64 (.ofNat (256+p))],1,rdV 100,.v 9000⟩]
def endsVp:V:=.tup [.si .i64 (.cv .i64 (.op .and .u64 (.v 100) (.lit 65535))),.si .i64 (.cv .i64 (.op .and .u64 (.op .shr .u64 (.v 100) (.lit 16)) (.lit 65535)))]
def endsVr:V:=.tup [.si .i64 (.cv .i64 (.op .rem .u64 (.v 100) (.lit 65536))),.si .i64 (.cv .i64 (.op .rem .u64 (.op .shr .u64 (.v 100) (.lit 16)) (.lit 65536)))]
def bitE (k:Nat) (on:Bool) (e:SE):SE:=match on with
 | true=>.op .or .u64 (.op .andNot .u64 e (.lit (.ofNat (2 ^ k)))) (.lit (.ofNat (2 ^ k)))
 | false=>.op .andNot .u64 e (.lit (.ofNat (2 ^ k)))
def markEs (k:Nat) (on:Bool):List Ent:=[⟨38,[.si .i64 (.v 1)],1,rdV 100,.v 9000⟩,⟨88,[.si .i64 (.v 1),.si .u64 (bitE k on (.v 100))],2,.i .i64 0,.v 9001⟩]
def endE:SE:=.op .or .u64 (.op .shl .u64 (.cv .u64 (.v 3)) (.lit 16)) (.cv .u64 (.v 2))
def setEs (p:Nat):List Ent:=[⟨88,[.i .i64 (.ofNat (256+p)),.si .u64 endE],1,.i .i64 0,.v 9000⟩,
 ⟨137,[.i .i64 (.ofNat (8+p / 64)),.i .i64 (.ofNat (p % 64)),.sb (.cmp .neq (.v 2) (.lit 0))],2,.si .u64 (.v 200),.v 9001⟩,
 ⟨137,[.i .i64 4,.i .i64 (.ofNat (p / 64)),.sb (.cmp .neq (.v 200) (.lit 0))],3,.si .u64 (.v 300),.v 9002⟩]
def setErs (p:Nat) (a b:Bool):List Ent:=[⟨117,[.i .i64 (.ofNat (256+p)),.si .u64 (.op .add .u64 (.cv .u64 (.v 2)) (.op .shl .u64 (.cv .u64 (.v 3)) (.lit 16)))],1,.i .i64 0,.v 9000⟩,
 ⟨92,[.i .i64 (.ofNat (8+p / 64))],2,rdV 200,.v 9001⟩,⟨117,[.i .i64 (.ofNat (8+p / 64)),.si .u64 (bitE (p % 64) a (.v 200))],3,.i .i64 0,.v 9002⟩,
 ⟨92,[.i .i64 4],4,rdV 400,.v 9003⟩,⟨117,[.i .i64 4,.si .u64 (bitE (p / 64) b (.v 400))],5,.i .i64 0,.v 9004⟩]
end Go.Ev.X
end
set_option linter.unusedSimpArgs false
set_option linter.unusedVariables false
set_option maxRecDepth 100000
noncomputable section
namespace Go.Ev.X
open Go Go.Ev Go.Proofs
variable {E:Env} {f:Nat->Int}
theorem zqU:zW (fun p=>Nat.beq (yP cx0 cP (endsEs 38 p) [] 104 [.i .i64 (.ofNat p)] ⟨[],[]⟩ endsVp 1 s1) 0) (rng 256)=true:=by decide +kernel
end Go.Ev.X
end
set_option linter.unusedSimpArgs false
set_option linter.unusedVariables false
set_option maxRecDepth 100000
noncomputable section
namespace Go.Ev.X
open Go Go.Ev Go.Proofs
variable {E:Env} {f:Nat->Int}
theorem zs6:zW (fun k=>zW (fun on=>Nat.beq (yP cx0 cP (markEs k on) [] 137 [.si .i64 (.v 1),.i .i64 (.ofNat k),.b on] ⟨[],[]⟩ (.si .u64 (bitE k on (.v 100))) 2 s2) 0) zbE) (rng 64)=true:=by decide +kernel
end Go.Ev.X
end
set_option linter.unusedSimpArgs false
set_option linter.unusedVariables false
set_option maxRecDepth 100000
noncomputable section
namespace Go.Ev.X
open Go Go.Ev Go.Proofs
variable {E:Env} {f:Nat->Int}
theorem set_run:zW (fun p=>Nat.beq (yP cx0 cP (setEs p) [] 108 [.i .i64 (.ofNat p),.si .i64 (.v 2),.si .i64 (.v 3)] ⟨[],[]⟩ (.tup []) 3 s3) 0) (rng 256)=true:=by decide +kernel
end Go.Ev.X
end
set_option linter.unusedSimpArgs false
set_option linter.unusedVariables false
set_option maxRecDepth 100000
noncomputable section
namespace Go.Ev.X
open Go Go.Ev Go.Proofs
variable {E:Env} {f:Nat->Int}
def W64 (x:Int):Prop:=0<=x/\x<18446744073709551616
theorem tup2 {ρ:Rho} {x y:V} {a b:Value} (h1:x.γ E ρ=a) (h2:y.γ E ρ=b):(V.tup [x,y]).γ E ρ=.tuple #[a,b]:=by simp only[V.γ,γL,h1,h2]
theorem bit_den (k:Nat) (hk:k<64) {e:SE} {w:Int} (he:e.den E=w) (hw:W64 w) :
  SE.den E (.op .andNot .u64 e (.lit (.ofNat (2 ^ k))))=zbT w k false/\SE.den E (.op .or .u64 (.op .andNot .u64 e (.lit (.ofNat (2 ^ k)))) (.lit (.ofNat (2 ^ k))))=zbT w k true:=by
 obtain⟨h0,h1⟩:=hw
 obtain⟨x,rfl⟩:=Int.eq_ofNat_of_zero_le h0
 have h64:(2:Nat) ^ 64=18446744073709551616:=by decide
 have hk2:2 ^ k<18446744073709551616:=by rw[<- h64];exact Nat.pow_lt_pow_right (by omega) hk
 have hx:x<2 ^ 64:=by omega
 have e1:arS .andNot .u64 (e.den E) (Int.ofNat (2 ^ k))=((zgl x k false:Nat):Int):=by
  rw[he]
  exact zew x (2 ^ k) (by omega) hk2
 have hb:zgl x k false<18446744073709551616:=by rw[<- h64];exact zlc false hx hk
 refine⟨e1,?_⟩
 show arS .or .u64 (arS .andNot .u64 (e.den E) (Int.ofNat (2 ^ k))) (Int.ofNat (2 ^ k))=_
 rw[e1]
 exact zh4 _ _ hb hk2
def zfN (f:Nat->Int) (p:Nat):Nat->Int:=fun i=>match i / 100 with
 | 1=>f (256+p)
 | 90=>1
 | _=>0
theorem zcZ {p:Nat} (hp:p<256) (hw:W64 (f (256+p))):zJ PP cP 104 [.int .i64 p] f (.tuple #[.int .i64 (zl f p),.int .i64 (zx f p)]) f:=by
 refine zH (k:=0) (zD hC0 (by decide) (Nat.eq_of_beq_eq_true (rng_ok zqU p hp)) rfl (zfN f p) (fun _=>f) fun st=>⟨zc (k:=0) (m:=1) rfl rfl (by omega),zm trivial trivial,⟨zi (zfv (by omega) f) (by omega) rfl (fun ρ=>rfl) (fun ρ=>rfl),trivial⟩,zn trivial,fun ρ=>rfl,fun ρ=>?_⟩)
 have v:SE.den (jA cP.N st (zfN f p) (fun _=>f)) (.v 100)=f (256+p):=rfl
 have e1:=yf (zk3 (m:=65535) 16 rfl (by omega) v hw.1 hw.2) (by omega) (by omega)
 have e2:=yf (zk3 (m:=65535) 16 rfl (by omega) (yA (A:=65536) 16 rfl (by omega) v hw.1) (by have:=hw.1;omega) (by have:=hw.2;omega)) (by omega) (by omega)
 exact tup2 (vsi e1) (vsi e2)
theorem zh1 {k:Nat} (hk:k<64) (on:Bool) {e:SE} {w:Int} (he:e.den E=w) (hw:W64 w):(bitE k on e).den E=zbT w k on:=by
 obtain⟨h1,h2⟩:=bit_den k hk he hw
 cases on with
 | true=>exact h2
 | false=>exact h1
def markVs (f:Nat->Int) (a:Nat):Nat->Int:=fun i=>match i / 100 with
 | 0=>a
 | 1=>f a
 | 90=>1
 | _=>0
theorem mark_p {a k:Nat} (ha:a<512) (hk:k<64) (on:Bool) (hw:W64 (f a)):zJ PP cP 137 [.int .i64 a,.int .i64 k,.bool on] f (.int .u64 (zbT (f a) k on)) (upd f a (zbT (f a) k on)):=by
 have hr:=Nat.eq_of_beq_eq_true (zt (rng_ok zs6 k hk) on (zbN on))
 refine zH (k:=1) (zD hC0 (by decide) hr rfl (markVs f a) (fun q=>match q with | 2=>upd f a (zbT (f a) k on) | _=>f) fun st=>?_)
 have v:SE.den (jA cP.N st (markVs f a) (fun q=>match q with | 2=>upd f a (zbT (f a) k on) | _=>f)) (.v 100)=f a:=rfl
 have d:=zh1 hk on v hw
 exact⟨zc (k:=1) (m:=1) (zc (k:=0) (m:=1) rfl rfl (by omega)) rfl (by omega),zm trivial trivial,
  ⟨zi (zfv ha f) (by omega) rfl (fun ρ=>rfl) (fun ρ=>rfl),zi (zjI ha f _) (by omega) rfl (fun ρ=>yY rfl (vsi d)) (fun ρ=>rfl),trivial⟩,zn trivial,fun ρ=>rfl,fun ρ=>vsi d⟩
def setVs (h l x y:Int) (k:Nat->Int):Nat->Int:=fun i=>match i / 100 with
 | 0=>if i=2 then h else l
 | 2=>x
 | 3=>y
 | 90=>k (i % 100)
 | _=>0
theorem znW {i:Nat} {x:Int} (h:E.i i=x):SB.den E (.cmp .neq (.v i) (.lit 0)) = !decide (x=0):=by
 show (!iEq (E.i i) 0)=_
 rw[yL,h]
theorem za1 {p:Nat} (hp:p<256) {h l:Int} (hh:0<=h/\h<65536) (hl:0<=l/\l<65536) (hb:W64 (f (8+p / 64))) (hs:W64 (f 4)):zJ PP cP 108 [.int .i64 p,.int .i64 h,.int .i64 l] f (.tuple #[]) (yI f p h l):=by
 have hr:=Nat.eq_of_beq_eq_true (rng_ok set_run p hp)
 obtain⟨f1,hf1⟩:∃ f1,f1=upd f (256+p) (h+l*65536):=⟨_,rfl⟩
 have b1:f1 (8+p / 64)=f (8+p / 64):=by rw[hf1,zY _ _ (by omega)]
 obtain⟨w,hw⟩:∃ w,w=zbT (f1 (8+p / 64)) (p % 64) (!decide (h=0)):=⟨_,rfl⟩
 obtain⟨f2,hf2⟩:∃ f2,f2=upd f1 (8+p / 64) w:=⟨_,rfl⟩
 have b2':f2 4=f 4:=by rw[hf2,zY _ _ (by omega),hf1,zY _ _ (by omega)]
 obtain⟨k1,p1,m1⟩:=mark_p (f:=f1) (a:=8+p / 64) (k:=p % 64) (by omega) (by omega) (!decide (h=0)) (by rw[b1];exact hb)
 obtain⟨k2,p2,m2⟩:=mark_p (f:=f2) (a:=4) (k:=p / 64) (by omega) (by omega) (!decide (w=0)) (by rw[b2'];exact hs)
 rw[<- hw,<- hf2]at m1
 refine⟨0+1+k1+k2,by omega,?_⟩
 have hfin:yI f p h l=upd f2 4 (zbT (f2 4) (p / 64) (!decide (w=0))):=by
  unfold yI
  rw[b2',hf2,hw,b1,hf1]
 rw[hfin]
 refine zD hC0 (by decide) hr rfl (setVs h l w (zbT (f2 4) (p / 64) (!decide (w=0))) (fun j=>match j with | 0=>1 | 1=>k1 | _=>k2)) (fun q=>match q with | 0=>f | 1=>f1 | 2=>f2 | _=>upd f2 4 (zbT (f2 4) (p / 64) (!decide (w=0)))) fun st=>?_
 generalize hE:jA cP.N st (setVs h l w (zbT (f2 4) (p / 64) (!decide (w=0))) (fun j=>match j with | 0=>1 | 1=>k1 | _=>k2)) (fun q=>match q with | 0=>f | 1=>f1 | 2=>f2 | _=>upd f2 4 (zbT (f2 4) (p / 64) (!decide (w=0))))=E'
 have v2:E'.i 2=h:=by rw[<- hE];rfl
 have v3:E'.i 3=l:=by rw[<- hE];rfl
 have v200:E'.i 200=w:=by rw[<- hE];rfl
 have d:SE.den E' endE=h+l*65536:=by
  have e2:=yj (E:=E') (e:=.v 2) (x:=h) v2 hh.1 (by omega)
  have e3:=yN (E:=E') (A:=65536) 16 rfl (by omega) (yj (e:=.v 3) (x:=l) v3 hl.1 (by omega)) hl.1 (by omega)
  have:=den_or (E:=E') 16 l (show l*65536=l*2 ^ 16 by rfl) hl.1 e3 e2 hh.1 (by show h<65536;omega) (by omega) (by omega)
  exact this.trans (by omega)
 have n2:=znW v2
 have n200:=znW v200
 subst hE
 exact⟨zc (k:=0+1+k1) (m:=k2) (zc (k:=0+1) (m:=k1) (zc (k:=0) (m:=1) rfl rfl (by omega)) rfl p1) rfl p2,zm trivial trivial,
  ⟨zi (k:=1) (by rw[hf1];exact zjI (by omega) f _) (by omega) rfl (fun ρ=>yY rfl (vsi d)) (fun ρ=>rfl),
   zi m1 p1 rfl (fun ρ=>zbF rfl rfl (vsb n2)) (fun ρ=>rfl),zi m2 p2 rfl (fun ρ=>zbF rfl rfl (vsb n200)) (fun ρ=>rfl),trivial⟩,zn trivial,fun ρ=>rfl,fun ρ=>rfl⟩
end Go.Ev.X
end
