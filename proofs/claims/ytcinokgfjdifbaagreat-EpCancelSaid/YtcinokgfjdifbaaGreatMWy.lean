import Derived.Test.YtcinokgfjdifbaaGreatMDr
import Derived.Test.YtcinokgfjdifbaaGreatMWx
set_option linter.unusedSimpArgs false
set_option linter.unusedVariables false
set_option maxRecDepth 100000
noncomputable section
namespace Go.Ev.X
open Go Go.Ev Go.Proofs
variable {TT:Nat->Prop} [SubT TT]
variable {f:Nat->Int} {Q:Nat->List Nat} {t:Nat}
theorem push_cr (h:QInv TT f Q) (ht:TT t) (hq:(za f t).q=false):zK PP cR 68 [.int .i64 t,.bool false] f (.int .i64 0) (zbc f t):=by
 obtain⟨hp,hpe⟩:=yL h ht
 by_cases he:Q (za f t).pr.toNat=[]
 ·have k:=zs2 h ht hq he
  have hH:zl f (za f t).pr.toNat=0:=by rw[zA zd h hp,he];rfl
  unfold zbc
  rw[if_pos hH]
  exact k
 ·have k:=zs0 h ht hq he (rfl:laN (Q (za f t).pr.toNat) 0=_)
  have hH:zl f (za f t).pr.toNat≠0:=by
   have:=zd.lo _ (h.el _ _ hp (zw (n:=0) he)).1
   rw[zA zd h hp];omega
  unfold zbc
  rw[if_neg hH]
  unfold zeu
  rw[ye zd h hp,Int.toNat_natCast]
  exact k
theorem zup (h:QInv TT f Q) (ht:TT t) (hq:(za f t).q=false):zK PP cR 68 [.int .i64 t,.bool true] f (.int .i64 0) (z6 f t):=by
 obtain⟨hp,hpe⟩:=yL h ht
 by_cases he:Q (za f t).pr.toNat=[]
 ·have k:=zrl h ht hq he
  have hH:zl f (za f t).pr.toNat=0:=by rw[zA zd h hp,he];rfl
  unfold z6
  rw[if_pos hH]
  exact k
 ·have k:=zrj h ht hq he (rfl:hdN (Q (za f t).pr.toNat) 0=_)
  have hH:zl f (za f t).pr.toNat≠0:=by
   have:=zd.lo _ (h.el _ _ hp (zw (n:=0) he)).1
   rw[zA zd h hp];omega
  unfold z6
  rw[if_neg hH]
  unfold zet
  rw[zA zd h hp,Int.toNat_natCast]
  exact k
theorem zlj (h:QInv TT f Q) (ht:TT t) (hq:(za f t).q=true):zK PP cR 75 [.int .i64 t] f (.int .i64 0) (z4 f t):=by
 obtain⟨hp,hpe⟩:=yL h ht
 obtain⟨a,b,hab⟩:=List.append_of_mem (h.off t ht hq)
 have hlk:=h.lk _ hp
 have hnd:=h.nd _ hp
 have hH':=zA zd h hp
 have hL':=ye zd h hp
 rw[hab]at hlk hnd hH' hL'
 rw[jS]at hH'
 rw[jP]at hL'
 obtain⟨na,nb,nab⟩:=List.nodup_append.1 hnd
 have nb':=List.nodup_cons.1 nb
 have nta:t∉a:=fun hx=>nab t hx t (by simp) rfl
 have ntb:t∉b:=nb'.1
 obtain⟨lka,lkt⟩:=zac.1 hlk
 obtain⟨epv,enx,lkb⟩:=lkt
 have ma:∀ u,u∈a->TT u:=fun u hu=>(h.el _ u hp (by rw[hab];simp[hu])).1
 have mb:∀ u,u∈b->TT u:=fun u hu=>(h.el _ u hp (by rw[hab];simp[hu])).1
 unfold z4 zli zi4 zeu zet
 by_cases ha:a=[]
 ·have e1:(za f t).pv=0:=by rw[epv,ha];rfl
  have e2:zl f (za f t).pr.toNat=(t:Int):=by rw[hH',ha];rfl
  rw[if_pos e1,if_pos e2]
  by_cases hb:b=[]
  ·have e3:(za f t).nx=0:=by rw[enx,hb];rfl
   have e4:zx f (za f t).pr.toNat=(t:Int):=by rw[hL',hb];rfl
   rw[if_pos e3,if_pos e4]
   exact zu0 h ht hq hab ha hb
  ·have m:=mb _ (zw (n:=0) hb)
   have lo:=zd.lo _ m
   have e4:¬ zx f (za f t).pr.toNat=(t:Int):=fun e=>ntb (by
    have hm:=zv (p:=t) hb
    have e2:laN b t=t:=by rw[hL']at e;exact_mod_cast e
    rw[e2]at hm;exact hm)
   rw[if_neg (show ¬ (za f t).nx=0 by omega),if_neg e4]
   have k:=zuY h ht hq hab ha hb (rfl:hdN b 0=_)
   rw[show (za f t).nx.toNat=hdN b 0 by omega]
   exact k
 ·have m:=ma _ (zv (p:=0) ha)
  have lo:=zd.lo _ m
  have e2:¬ zl f (za f t).pr.toNat=(t:Int):=fun e=>nta (by
   have hm:=zw (n:=t) ha
   have e2:hdN a t=t:=by rw[hH']at e;exact_mod_cast e
   rw[e2]at hm;exact hm)
  rw[if_neg (show ¬ (za f t).pv=0 by omega),if_neg e2,show (za f t).pv.toNat=laN a 0 by omega]
  by_cases hb:b=[]
  ·have e3:(za f t).nx=0:=by rw[enx,hb];rfl
   have e4:zx f (za f t).pr.toNat=(t:Int):=by rw[hL',hb];rfl
   rw[if_pos e3,if_pos e4]
   exact zuW h ht hq hab ha (rfl:laN a 0=_) hb
  ·have m:=mb _ (zw (n:=0) hb)
   have lo:=zd.lo _ m
   have e4:¬ zx f (za f t).pr.toNat=(t:Int):=fun e=>ntb (by
    have hm:=zv (p:=t) hb
    have e2:laN b t=t:=by rw[hL']at e;exact_mod_cast e
    rw[e2]at hm;exact hm)
   rw[if_neg (show ¬ (za f t).nx=0 by omega),if_neg e4]
   have k:=zuU h ht hq hab ha (rfl:laN a 0=_) hb (rfl:hdN b 0=_)
   rw[show (za f t).nx.toNat=hdN b 0 by omega]
   exact k
end Go.Ev.X
end
set_option linter.unusedSimpArgs false
set_option linter.unusedVariables false
set_option maxRecDepth 100000
noncomputable section
namespace Go.Ev.X
open Go Go.Ev Go.Proofs Go.RowKit
variable {TT:Nat->Prop} [SubT TT]
variable {E:Env} {f:Nat->Int} {Q:Nat->List Nat} {t:Nat}
theorem zu6:zX (fun t=>Nat.beq (yP cx0 cR (rdE 92) [] 67 [] ⟨[((.cmp .eql (.v 100) (.lit (.ofNat t))),true)],[]⟩ (.i .i64 (.ofNat t)) 1 s1) 0) curL=true:=by decide +kernel
theorem zds (ht:t=0\/TT t) (h:f 1=(t:Int)):zK PP cR 67 [] f (.int .i64 t) f:=
 zJ (k:=0) (zH hC0 (by decide) (Nat.eq_of_beq_eq_true (zu zu6 t (zg7 ht))) rfl (zpr (f 1)) (fun _=>f) fun st=>⟨zc (k:=0) (m:=1) rfl rfl (by omega),zm ⟨zae h,trivial⟩ trivial,
  ⟨zi (k:=1) (zhJ (a:=1) (by omega) f) (by omega) rfl (fun ρ=>rfl) (fun ρ=>rfl),trivial⟩,zn trivial,fun ρ=>rfl,fun ρ=>rfl⟩)
theorem zqv:zX (fun t=>Nat.beq (yP cx0 cR (wrE 117 t) [] 76 [.i .i64 (.ofNat t)] ⟨[],[]⟩ (.i .i64 0) 1 s1) 0) curL=true:=by decide +kernel
theorem zkD (ht:t=0\/TT t) (f:Nat->Int):zK PP cR 76 [.int .i64 t] f (.int .i64 0) (upd f 1 t):=
 zJ (k:=0) (zH hC0 (by decide) (Nat.eq_of_beq_eq_true (zu zqv t (zg7 ht))) rfl (zpr 0) (fun q=>match q with | 1=>upd f 1 t | _=>f) fun st=>⟨zc (k:=0) (m:=1) rfl rfl (by omega),zm trivial trivial,
  ⟨zi (k:=1) (zgQ (a:=1) (by omega) f t) (by omega) rfl (fun ρ=>rfl) (fun ρ=>rfl),trivial⟩,zn trivial,fun ρ=>rfl,fun ρ=>rfl⟩)
end Go.Ev.X
end
