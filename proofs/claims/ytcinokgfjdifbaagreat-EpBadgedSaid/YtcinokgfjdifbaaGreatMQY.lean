import Derived.Test.YtcinokgfjdifbaaGreatMQz
import Derived.Test.YtcinokgfjdifbaaGreatE6
import Derived.Test.YtcinokgfjdifbaaGreatMBd
import Derived.Test.YtcinokgfjdifbaaGreatMBe
set_option linter.unusedSimpArgs false
set_option linter.unusedVariables false
set_option maxRecDepth 100000
noncomputable section
namespace Go.Ev.X
open Go Go.Ev Go.Proofs
variable {TT:Nat->Prop} [SubT TT]
theorem zhl {a:Nat} (ha:a<512) (f:Nat->Int):zaO PP cR 92 [.int .i64 a] f (.tuple #[.int .u64 (f a),.int .i64 0]) f 1:=
 have h:=zbH (rng_ok rdR_run a ha)
 zko hcl h.1 h.2 f
theorem zgp {a:Nat} (ha:a<512) (f:Nat->Int) (x:Int):zaO PP cR 117 [.int .i64 a,.int .u64 x] f (.int .i64 0) (upd f a x) 1:=
 have h:=zbH (rng_ok wrR_run a ha)
 zgq hcl h.1 h.2 f x
theorem jH {f:Nat->Int} {t:Nat} (ht:TT t) (h:RightAt f t):zaO PP cR 62 [.int .i64 t] f (.tuple #[thV (za f t) (zp f t),.int .i64 0]) f 20:=
 have k:=zbH (zt (zt (zt (zt thR_run t (zdL ht)) (za f t).q (zbN _)) (za f t).g (zbN _)) (za f t).c (zbN _))
 zrv hcl k.1 k.2 h
theorem zaz {f:Nat->Int} {t:Nat} (ht:TT t) {v:TV} (h:v.Right):zaO PP cR 83 [.int .i64 t,thV v (zp f t)] f (.int .i64 0) (zg f t v) 20:=
 have k:=zbH (zt (zt (zt (zt stR_run t (zdL ht)) v.q (zbN _)) v.g (zbN _)) v.c (zbN _))
 zlJ hcl k.1 k.2 h
end Go.Ev.X
end
set_option linter.unusedSimpArgs false
set_option linter.unusedVariables false
set_option maxRecDepth 100000
noncomputable section
namespace Go.Ev.X
open Go Go.Ev Go.Proofs
variable {E:Env} {f:Nat->Int}
theorem zjt:zW (fun p=>Nat.beq (yP cx0 cR (endsEs 92 p) [] 99 [.i .i64 (.ofNat p)] ⟨[],[]⟩ endsVr 1 s1) 0) (rng 256)=true:=by decide +kernel
end Go.Ev.X
end
set_option linter.unusedSimpArgs false
set_option linter.unusedVariables false
set_option maxRecDepth 100000
noncomputable section
namespace Go.Ev.X
open Go Go.Ev Go.Proofs
variable {E:Env} {f:Nat->Int}
theorem zrZ:zW (fun p=>zW (fun a=>zW (fun b=>Nat.beq (yP cx0 cR (setErs p a b) [] 100 [.i .i64 (.ofNat p),.si .i64 (.v 2),.si .i64 (.v 3)]
  ⟨[((.cmp .neq (.v 2) (.lit 0)),a),((.cmp .neq (bitE (p % 64) a (.v 200)) (.lit 0)),b)],[]⟩ (.tup []) 5 s5) 0) zbE) zbE) (rng 256)=true:=by decide +kernel
end Go.Ev.X
end
set_option linter.unusedSimpArgs false
set_option linter.unusedVariables false
set_option maxRecDepth 100000
noncomputable section
namespace Go.Ev.X
open Go Go.Ev Go.Proofs
variable {E:Env} {f:Nat->Int}
theorem zdC {p:Nat} (hp:p<256) (hw:W64 (f (256+p))):zJ PP cR 99 [.int .i64 p] f (.tuple #[.int .i64 (zl f p),.int .i64 (zx f p)]) f:=by
 refine zH (k:=0) (zD hC0 (by decide) (Nat.eq_of_beq_eq_true (rng_ok zjt p hp)) rfl (zfN f p) (fun _=>f) fun st=>⟨zc (k:=0) (m:=1) rfl rfl (by omega),zm trivial trivial,⟨zi (zhl (by omega) f) (by omega) rfl (fun ρ=>rfl) (fun ρ=>rfl),trivial⟩,zn trivial,fun ρ=>rfl,fun ρ=>?_⟩)
 have v:SE.den (jA cR.N st (zfN f p) (fun _=>f)) (.v 100)=f (256+p):=rfl
 have e1:=yf (yw (m:=65536) v hw.1) (by omega) (by omega)
 have e2:=yf (yw (m:=65536) (yA (A:=65536) 16 rfl (by omega) v hw.1) (by have:=hw.1;omega)) (by omega) (by omega)
 exact tup2 (vsi e1) (vsi e2)
def setVr (h l x y:Int):Nat->Int:=fun i=>match i / 100 with
 | 0=>if i=2 then h else l
 | 2=>x
 | 4=>y
 | 90=>1
 | _=>0
theorem za0 {p:Nat} (hp:p<256) {h l:Int} (hh:0<=h/\h<65536) (hl:0<=l/\l<65536) (hb:W64 (f (8+p / 64))) (hs:W64 (f 4)):zJ PP cR 100 [.int .i64 p,.int .i64 h,.int .i64 l] f (.tuple #[]) (yI f p h l):=by
 obtain⟨f1,hf1⟩:∃ f1,f1=upd f (256+p) (h+l*65536):=⟨_,rfl⟩
 have b1:f1 (8+p / 64)=f (8+p / 64):=by rw[hf1,zY _ _ (by omega)]
 obtain⟨w,hw⟩:∃ w,w=zbT (f1 (8+p / 64)) (p % 64) (!decide (h=0)):=⟨_,rfl⟩
 obtain⟨f2,hf2⟩:∃ f2,f2=upd f1 (8+p / 64) w:=⟨_,rfl⟩
 have b2':f2 4=f 4:=by rw[hf2,zY _ _ (by omega),hf1,zY _ _ (by omega)]
 have hr:=Nat.eq_of_beq_eq_true (zt (zt (rng_ok zrZ p hp) (!decide (h=0)) (zbN _)) (!decide (w=0)) (zbN _))
 have hfin:yI f p h l=upd f2 4 (zbT (f2 4) (p / 64) (!decide (w=0))):=by
  unfold yI
  rw[b2',hf2,hw,b1,hf1]
 rw[hfin]
 refine zH (k:=4) (zD hC0 (by decide) hr rfl (setVr h l (f1 (8+p / 64)) (f2 4)) (fun q=>match q with | 0=>f | 1=>f1 | 2=>f1 | 3=>f2 | 4=>f2 | _=>upd f2 4 (zbT (f2 4) (p / 64) (!decide (w=0)))) fun st=>?_)
 generalize hE:jA cR.N st (setVr h l (f1 (8+p / 64)) (f2 4)) (fun q=>match q with | 0=>f | 1=>f1 | 2=>f1 | 3=>f2 | 4=>f2 | _=>upd f2 4 (zbT (f2 4) (p / 64) (!decide (w=0))))=E'
 have v2:E'.i 2=h:=by rw[<- hE];rfl
 have v3:E'.i 3=l:=by rw[<- hE];rfl
 have v200:SE.den E' (.v 200)=f1 (8+p / 64):=by rw[<- hE];rfl
 have v400:SE.den E' (.v 400)=f2 4:=by rw[<- hE];rfl
 have d:SE.den E' (.op .add .u64 (.cv .u64 (.v 2)) (.op .shl .u64 (.cv .u64 (.v 3)) (.lit 16)))=h+l*65536:=by
  have e2:=yj (E:=E') (e:=.v 2) (x:=h) v2 hh.1 (by omega)
  have e3:=yN (E:=E') (A:=65536) 16 rfl (by omega) (yj (e:=.v 3) (x:=l) v3 hl.1 (by omega)) hl.1 (by omega)
  exact yq e2 e3 (by omega) (by omega)
 have d3:=zh1 (k:=p % 64) (by omega) (!decide (h=0)) v200 (by rw[b1];exact hb)
 rw[<- hw]at d3
 have d5:=zh1 (k:=p / 64) (by omega) (!decide (w=0)) v400 (by rw[b2'];exact hs)
 have n2:=znW v2
 have n3:SB.den E' (.cmp .neq (bitE (p % 64) (!decide (h=0)) (.v 200)) (.lit 0)) = !decide (w=0):=by
  show (!iEq (SE.den E' (bitE (p % 64) (!decide (h=0)) (.v 200))) 0)=_
  rw[d3,yL]
 subst hE
 exact⟨zc (k:=4) (m:=1) (zc (k:=3) (m:=1) (zc (k:=2) (m:=1) (zc (k:=1) (m:=1) (zc (k:=0) (m:=1) rfl rfl (by omega)) rfl (by omega)) rfl (by omega)) rfl (by omega)) rfl (by omega),zm ⟨n2,n3,trivial⟩ trivial,
  ⟨zi (k:=1) (by rw[hf1];exact zgp (by omega) f _) (by omega) rfl (fun ρ=>yY rfl (vsi d)) (fun ρ=>rfl),zi (k:=1) (zhl (a:=8+p / 64) (by omega) f1) (by omega) rfl (fun ρ=>rfl) (fun ρ=>rfl),
   zi (k:=1) (by rw[hf2];exact zgp (a:=8+p / 64) (by omega) f1 _) (by omega) rfl (fun ρ=>yY rfl (vsi d3)) (fun ρ=>rfl),zi (k:=1) (zhl (a:=4) (by omega) f2) (by omega) rfl (fun ρ=>rfl) (fun ρ=>rfl),
   zi (k:=1) (zgp (a:=4) (by omega) f2 _) (by omega) rfl (fun ρ=>yY rfl (vsi d5)) (fun ρ=>rfl),trivial⟩,zn trivial,fun ρ=>rfl,fun ρ=>rfl⟩
end Go.Ev.X
end
