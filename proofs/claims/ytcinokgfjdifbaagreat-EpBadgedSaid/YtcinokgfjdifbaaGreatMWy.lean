import Derived.Test.YtcinokgfjdifbaaGreatMDr
import Derived.Test.YtcinokgfjdifbaaGreatMWx
set_option linter.unusedSimpArgs false
set_option linter.unusedVariables false
set_option maxRecDepth 100000
noncomputable section
namespace Go.Ev.X
open Go Go.Ev Go.Proofs
variable {TT:Nat->Prop} [SubT TT]
variable {f:Nat->Int} {Q:Nat->List Nat} {t:Nat}
theorem push_cr (h:QInv TT f Q) (ht:TT t) (hq:(za f t).q=false):zJ PP cR 68 [.int .i64 t,.bool false] f (.int .i64 0) (zbb f t):=by
 obtain⟨hp,hpe⟩:=yK h ht
 by_cases he:Q (za f t).pr.toNat=[]
 ·have k:=zsx h ht hq he
  have hH:zl f (za f t).pr.toNat=0:=by rw[zA zd h hp,he];rfl
  unfold zbb
  rw[if_pos hH]
  exact k
 ·have k:=zsv h ht hq he (rfl:laN (Q (za f t).pr.toNat) 0=_)
  have hH:zl f (za f t).pr.toNat≠0:=by
   have:=zd.lo _ (h.el _ _ hp (zw (n:=0) he)).1
   rw[zA zd h hp];omega
  unfold zbb
  rw[if_neg hH]
  unfold zed
  rw[yd zd h hp,Int.toNat_natCast]
  exact k
theorem ztR (h:QInv TT f Q) (ht:TT t) (hq:(za f t).q=false):zJ PP cR 68 [.int .i64 t,.bool true] f (.int .i64 0) (z6 f t):=by
 obtain⟨hp,hpe⟩:=yK h ht
 by_cases he:Q (za f t).pr.toNat=[]
 ·have k:=zqO h ht hq he
  have hH:zl f (za f t).pr.toNat=0:=by rw[zA zd h hp,he];rfl
  unfold z6
  rw[if_pos hH]
  exact k
 ·have k:=zqM h ht hq he (rfl:hdN (Q (za f t).pr.toNat) 0=_)
  have hH:zl f (za f t).pr.toNat≠0:=by
   have:=zd.lo _ (h.el _ _ hp (zw (n:=0) he)).1
   rw[zA zd h hp];omega
  unfold z6
  rw[if_neg hH]
  unfold zec
  rw[zA zd h hp,Int.toNat_natCast]
  exact k
theorem zkT (h:QInv TT f Q) (ht:TT t) (hq:(za f t).q=true):zJ PP cR 75 [.int .i64 t] f (.int .i64 0) (zZ f t):=by
 obtain⟨hp,hpe⟩:=yK h ht
 obtain⟨a,b,hab⟩:=List.append_of_mem (h.off t ht hq)
 have hlk:=h.lk _ hp
 have hnd:=h.nd _ hp
 have hH':=zA zd h hp
 have hL':=yd zd h hp
 rw[hab]at hlk hnd hH' hL'
 rw[jP]at hH'
 rw[jM]at hL'
 obtain⟨na,nb,nab⟩:=List.nodup_append.1 hnd
 have nb':=List.nodup_cons.1 nb
 have nta:t∉a:=fun hx=>nab t hx t (by simp) rfl
 have ntb:t∉b:=nb'.1
 obtain⟨lka,lkt⟩:=j5.1 hlk
 obtain⟨epv,enx,lkb⟩:=lkt
 have ma:∀ u,u∈a->TT u:=fun u hu=>(h.el _ u hp (by rw[hab];simp[hu])).1
 have mb:∀ u,u∈b->TT u:=fun u hu=>(h.el _ u hp (by rw[hab];simp[hu])).1
 unfold zZ zkS ziF zed zec
 by_cases ha:a=[]
 ·have e1:(za f t).pv=0:=by rw[epv,ha];rfl
  have e2:zl f (za f t).pr.toNat=(t:Int):=by rw[hH',ha];rfl
  rw[if_pos e1,if_pos e2]
  by_cases hb:b=[]
  ·have e3:(za f t).nx=0:=by rw[enx,hb];rfl
   have e4:zx f (za f t).pr.toNat=(t:Int):=by rw[hL',hb];rfl
   rw[if_pos e3,if_pos e4]
   exact zut h ht hq hab ha hb
  ·have m:=mb _ (zw (n:=0) hb)
   have lo:=zd.lo _ m
   have e4:¬ zx f (za f t).pr.toNat=(t:Int):=fun e=>ntb (by
    have hm:=zu (p:=t) hb
    have e2:laN b t=t:=by rw[hL']at e;exact_mod_cast e
    rw[e2]at hm;exact hm)
   rw[if_neg (show ¬ (za f t).nx=0 by omega),if_neg e4]
   have k:=zur h ht hq hab ha hb (rfl:hdN b 0=_)
   rw[show (za f t).nx.toNat=hdN b 0 by omega]
   exact k
 ·have m:=ma _ (zu (p:=0) ha)
  have lo:=zd.lo _ m
  have e2:¬ zl f (za f t).pr.toNat=(t:Int):=fun e=>nta (by
   have hm:=zw (n:=t) ha
   have e2:hdN a t=t:=by rw[hH']at e;exact_mod_cast e
   rw[e2]at hm;exact hm)
  rw[if_neg (show ¬ (za f t).pv=0 by omega),if_neg e2,show (za f t).pv.toNat=laN a 0 by omega]
  by_cases hb:b=[]
  ·have e3:(za f t).nx=0:=by rw[enx,hb];rfl
   have e4:zx f (za f t).pr.toNat=(t:Int):=by rw[hL',hb];rfl
   rw[if_pos e3,if_pos e4]
   exact zup h ht hq hab ha (rfl:laN a 0=_) hb
  ·have m:=mb _ (zw (n:=0) hb)
   have lo:=zd.lo _ m
   have e4:¬ zx f (za f t).pr.toNat=(t:Int):=fun e=>ntb (by
    have hm:=zu (p:=t) hb
    have e2:laN b t=t:=by rw[hL']at e;exact_mod_cast e
    rw[e2]at hm;exact hm)
   rw[if_neg (show ¬ (za f t).nx=0 by omega),if_neg e4]
   have k:=zun h ht hq hab ha (rfl:laN a 0=_) hb (rfl:hdN b 0=_)
   rw[show (za f t).nx.toNat=hdN b 0 by omega]
   exact k
end Go.Ev.X
end
set_option linter.unusedSimpArgs false
set_option linter.unusedVariables false
set_option maxRecDepth 100000
noncomputable section
namespace Go.Ev.X
open Go Go.Ev Go.Proofs Go.RowKit
variable {TT:Nat->Prop} [SubT TT]
variable {E:Env} {f:Nat->Int} {Q:Nat->List Nat} {t:Nat}
theorem zuA:zW (fun t=>Nat.beq (yP cx0 cR (rdE 92) [] 67 [] ⟨[((.cmp .eql (.v 100) (.lit (.ofNat t))),true)],[]⟩ (.i .i64 (.ofNat t)) 1 s1) 0) curL=true:=by decide +kernel
theorem zdf (ht:t=0\/TT t) (h:f 1=(t:Int)):zJ PP cR 67 [] f (.int .i64 t) f:=
 zH (k:=0) (zD hC0 (by decide) (Nat.eq_of_beq_eq_true (zt zuA t (zgH ht))) rfl (zo3 (f 1)) (fun _=>f) fun st=>⟨zc (k:=0) (m:=1) rfl rfl (by omega),zm ⟨zal h,trivial⟩ trivial,
  ⟨zi (k:=1) (zhl (a:=1) (by omega) f) (by omega) rfl (fun ρ=>rfl) (fun ρ=>rfl),trivial⟩,zn trivial,fun ρ=>rfl,fun ρ=>rfl⟩)
theorem zp8:zW (fun t=>Nat.beq (yP cx0 cR (wrE 117 t) [] 76 [.i .i64 (.ofNat t)] ⟨[],[]⟩ (.i .i64 0) 1 s1) 0) curL=true:=by decide +kernel
theorem zkf (ht:t=0\/TT t) (f:Nat->Int):zJ PP cR 76 [.int .i64 t] f (.int .i64 0) (upd f 1 t):=
 zH (k:=0) (zD hC0 (by decide) (Nat.eq_of_beq_eq_true (zt zp8 t (zgH ht))) rfl (zo3 0) (fun q=>match q with | 1=>upd f 1 t | _=>f) fun st=>⟨zc (k:=0) (m:=1) rfl rfl (by omega),zm trivial trivial,
  ⟨zi (k:=1) (zgp (a:=1) (by omega) f t) (by omega) rfl (fun ρ=>rfl) (fun ρ=>rfl),trivial⟩,zn trivial,fun ρ=>rfl,fun ρ=>rfl⟩)
end Go.Ev.X
end
