import Derived.Test.YtcinokgfjdifbaaGreatMDp
set_option linter.unusedSimpArgs false
set_option linter.unusedVariables false
set_option maxRecDepth 100000
noncomputable section
namespace Go.Ev.X
open Go Go.Ev Go.Proofs
variable {TT:Nat->Prop} [SubT TT]
variable {f:Nat->Int} {Q:Nat->List Nat} {t:Nat}
theorem push_cp (h:QInv TT f Q) (ht:TT t) (hq:(za f t).q=false):zJ PP cP 66 [.int .i64 t] f (.int .i64 0) (zbb f t):=by
 obtain⟨hp,hpe⟩:=yK h ht
 by_cases he:Q (za f t).pr.toNat=[]
 ·have k:=zsy h ht hq he
  have hH:zl f (za f t).pr.toNat=0:=by rw[zA zd h hp,he];rfl
  unfold zbb
  rw[if_pos hH]
  exact k
 ·have k:=zsw h ht hq he (rfl:laN (Q (za f t).pr.toNat) 0=_)
  have hH:zl f (za f t).pr.toNat≠0:=by
   have:=zd.lo _ (h.el _ _ hp (zw (n:=0) he)).1
   rw[zA zd h hp];omega
  unfold zbb
  rw[if_neg hH]
  unfold zed
  rw[yd zd h hp,Int.toNat_natCast]
  exact k
theorem ztS (h:QInv TT f Q) (ht:TT t) (hq:(za f t).q=false):zJ PP cP 72 [.int .i64 t] f (.int .i64 0) (z6 f t):=by
 obtain⟨hp,hpe⟩:=yK h ht
 by_cases he:Q (za f t).pr.toNat=[]
 ·have k:=zqP h ht hq he
  have hH:zl f (za f t).pr.toNat=0:=by rw[zA zd h hp,he];rfl
  unfold z6
  rw[if_pos hH]
  exact k
 ·have k:=zqN h ht hq he (rfl:hdN (Q (za f t).pr.toNat) 0=_)
  have hH:zl f (za f t).pr.toNat≠0:=by
   have:=zd.lo _ (h.el _ _ hp (zw (n:=0) he)).1
   rw[zA zd h hp];omega
  unfold z6
  rw[if_neg hH]
  unfold zec
  rw[zA zd h hp,Int.toNat_natCast]
  exact k
theorem zkU (h:QInv TT f Q) (ht:TT t) (hq:(za f t).q=true):zJ PP cP 71 [.int .i64 t] f (.int .i64 0) (zZ f t):=by
 obtain⟨hp,hpe⟩:=yK h ht
 obtain⟨a,b,hab⟩:=List.append_of_mem (h.off t ht hq)
 have hlk:=h.lk _ hp
 have hnd:=h.nd _ hp
 have hH':=zA zd h hp
 have hL':=yd zd h hp
 rw[hab]at hlk hnd hH' hL'
 rw[jP]at hH'
 rw[jM]at hL'
 obtain⟨na,nb,nab⟩:=List.nodup_append.1 hnd
 have nb':=List.nodup_cons.1 nb
 have nta:t∉a:=fun hx=>nab t hx t (by simp) rfl
 have ntb:t∉b:=nb'.1
 obtain⟨lka,lkt⟩:=j5.1 hlk
 obtain⟨epv,enx,lkb⟩:=lkt
 have ma:∀ u,u∈a->TT u:=fun u hu=>(h.el _ u hp (by rw[hab];simp[hu])).1
 have mb:∀ u,u∈b->TT u:=fun u hu=>(h.el _ u hp (by rw[hab];simp[hu])).1
 unfold zZ zkS ziF zed zec
 by_cases ha:a=[]
 ·have e1:(za f t).pv=0:=by rw[epv,ha];rfl
  have e2:zl f (za f t).pr.toNat=(t:Int):=by rw[hH',ha];rfl
  rw[if_pos e1,if_pos e2]
  by_cases hb:b=[]
  ·have e3:(za f t).nx=0:=by rw[enx,hb];rfl
   have e4:zx f (za f t).pr.toNat=(t:Int):=by rw[hL',hb];rfl
   rw[if_pos e3,if_pos e4]
   exact zuu h ht hq hab ha hb
  ·have m:=mb _ (zw (n:=0) hb)
   have lo:=zd.lo _ m
   have e4:¬ zx f (za f t).pr.toNat=(t:Int):=fun e=>ntb (by
    have hm:=zu (p:=t) hb
    have e2:laN b t=t:=by rw[hL']at e;exact_mod_cast e
    rw[e2]at hm;exact hm)
   rw[if_neg (show ¬ (za f t).nx=0 by omega),if_neg e4]
   have k:=zus h ht hq hab ha hb (rfl:hdN b 0=_)
   rw[show (za f t).nx.toNat=hdN b 0 by omega]
   exact k
 ·have m:=ma _ (zu (p:=0) ha)
  have lo:=zd.lo _ m
  have e2:¬ zl f (za f t).pr.toNat=(t:Int):=fun e=>nta (by
   have hm:=zw (n:=t) ha
   have e2:hdN a t=t:=by rw[hH']at e;exact_mod_cast e
   rw[e2]at hm;exact hm)
  rw[if_neg (show ¬ (za f t).pv=0 by omega),if_neg e2,show (za f t).pv.toNat=laN a 0 by omega]
  by_cases hb:b=[]
  ·have e3:(za f t).nx=0:=by rw[enx,hb];rfl
   have e4:zx f (za f t).pr.toNat=(t:Int):=by rw[hL',hb];rfl
   rw[if_pos e3,if_pos e4]
   exact zuq h ht hq hab ha (rfl:laN a 0=_) hb
  ·have m:=mb _ (zw (n:=0) hb)
   have lo:=zd.lo _ m
   have e4:¬ zx f (za f t).pr.toNat=(t:Int):=fun e=>ntb (by
    have hm:=zu (p:=t) hb
    have e2:laN b t=t:=by rw[hL']at e;exact_mod_cast e
    rw[e2]at hm;exact hm)
   rw[if_neg (show ¬ (za f t).nx=0 by omega),if_neg e4]
   have k:=zuo h ht hq hab ha (rfl:laN a 0=_) hb (rfl:hdN b 0=_)
   rw[show (za f t).nx.toNat=hdN b 0 by omega]
   exact k
end Go.Ev.X
end
set_option linter.unusedSimpArgs false
set_option linter.unusedVariables false
set_option maxRecDepth 100000
noncomputable section
namespace Go.Ev.X
open Go Go.Ev Go.Proofs Go.RowKit
variable {TT:Nat->Prop} [SubT TT]
variable {E:Env} {f:Nat->Int} {Q:Nat->List Nat} {t:Nat}
def curL:List Nat:=[0,1024,1088,1152,1216]
def rdE (F:Nat):List Ent:=[⟨F,[.i .i64 1],1,rdV 100,.v 9000⟩]
theorem zuB:zW (fun t=>Nat.beq (yP cx0 cP (rdE 38) [] 95 [] ⟨[((.cmp .eql (.v 100) (.lit (.ofNat t))),true)],[]⟩ (.i .i64 (.ofNat t)) 1 s1) 0) curL=true:=by decide +kernel
def zo3 (x:Int):Nat->Int:=fun i=>match i / 100 with
 | 1=>x
 | 90=>1
 | _=>0
theorem zgH {t:Nat} (h:t=0\/TT t):t∈curL:=by
 rcases h with rfl | h
 ·simp[curL]
 ·rcases SubT.sub t h with rfl | rfl | rfl | rfl <;> simp[curL]
theorem zdE (ht:t=0\/TT t) (h:f 1=(t:Int)):zJ PP cP 95 [] f (.int .i64 t) f:=
 zH (k:=0) (zD hC0 (by decide) (Nat.eq_of_beq_eq_true (zt zuB t (zgH ht))) rfl (zo3 (f 1)) (fun _=>f) fun st=>⟨zc (k:=0) (m:=1) rfl rfl (by omega),zm ⟨zal h,trivial⟩ trivial,
  ⟨zi (k:=1) (zfv (a:=1) (by omega) f) (by omega) rfl (fun ρ=>rfl) (fun ρ=>rfl),trivial⟩,zn trivial,fun ρ=>rfl,fun ρ=>rfl⟩)
def wrE (F t:Nat):List Ent:=[⟨F,[.i .i64 1,.i .u64 (.ofNat t)],1,.i .i64 0,.v 9000⟩]
theorem zp9:zW (fun t=>Nat.beq (yP cx0 cP (wrE 88 t) [] 110 [.i .i64 (.ofNat t)] ⟨[],[]⟩ (.i .i64 0) 1 s1) 0) curL=true:=by decide +kernel
theorem zkg (ht:t=0\/TT t) (f:Nat->Int):zJ PP cP 110 [.int .i64 t] f (.int .i64 0) (upd f 1 t):=
 zH (k:=0) (zD hC0 (by decide) (Nat.eq_of_beq_eq_true (zt zp9 t (zgH ht))) rfl (zo3 0) (fun q=>match q with | 1=>upd f 1 t | _=>f) fun st=>⟨zc (k:=0) (m:=1) rfl rfl (by omega),zm trivial trivial,
  ⟨zi (k:=1) (zjI (a:=1) (by omega) f t) (by omega) rfl (fun ρ=>rfl) (fun ρ=>rfl),trivial⟩,zn trivial,fun ρ=>rfl,fun ρ=>rfl⟩)
def frE (F:Nat):List Ent:=[⟨F,[.si .i64 (.v 1)],1,.tup [.si .i64 (.v 100),.si .i64 (.v 101)],.v 9000⟩]
theorem zoj:yP cx0 cP (frE 104) [] 103 [.si .i64 (.v 1)] ⟨[((.cmp .geq (.v 1) (.lit 0)),true),((.cmp .lss (.v 1) (.lit 256)),true)],[]⟩ (.si .i64 (.v 100)) 1 s1=0:=by decide +kernel
def frVs (f:Nat->Int) (p:Nat) (k:Nat):Nat->Int:=fun i=>match i / 100 with
 | 0=>p
 | 1=>if i=100 then zl f p else zx f p
 | 90=>k
 | _=>0
theorem ztP {p:Nat} (hp:p<256) (hw:W64 (f (256+p))):zJ PP cP 103 [.int .i64 p] f (.int .i64 (zl f p)) f:=by
 obtain⟨k,pk,ck⟩:=zcZ hp hw
 exact⟨0+k,by omega,zD hC0 (by decide) zoj rfl (frVs f p k) (fun _=>f) fun st=>⟨zc (k:=0) (m:=k) rfl rfl pk,zm ⟨zbh (show (0:Int)<=p by omega),f_lt (show (p:Int)<256 by omega),trivial⟩ trivial,
  ⟨zi ck pk rfl (fun ρ=>rfl) (fun ρ=>rfl),trivial⟩,zn trivial,fun ρ=>rfl,fun ρ=>rfl⟩⟩
theorem znS {e:SE} {j:Nat} {x:Int} (he:e.den E=x) (hx:W64 x) (hv:E.i j=(Lib.bitLen x.toNat:Nat)):PEntOk PP E ⟨135,[.si .u64 e],.si .i64 (.v j)⟩:=
 ⟨trivial,Tryz.call135,fun ρ w=>(Tryz.bits_Len64 (e.den E) w (by rw[he];exact hx.1) (by rw[he];have:=hx.2;omega)).mono fun ex w' h=>by
  obtain⟨h1,h2⟩:=h
  subst h2
  refine⟨?_,⟨rfl,rfl,rfl,Nat.le_refl _,fun _ _=>rfl⟩⟩
  rw[h1,he]
  simp only[V.γ,SE.den,hv]⟩
def hiEs:List Ent:=[⟨38,[.i .i64 4],1,rdV 100,.v 9000⟩]
def hiPs:List PEnt:=[⟨135,[.si .u64 (.op .and .u64 (.v 100) (.lit 15))],.si .i64 (.v 200)⟩]
theorem hi0_run:yP cx0 cP hiEs hiPs 70 [] ⟨[((.cmp .lss (.op .sub .i64 (.v 200) (.lit 1)) (.lit 0)),true)],[]⟩ (.i .i64 0) 1 s1=0:=by decide +kernel
def hiEs2:List Ent:=[⟨38,[.i .i64 4],1,rdV 100,.v 9000⟩,⟨38,[.si .i64 (.op .add .i64 (.lit 8) (.op .sub .i64 (.v 200) (.lit 1)))],2,rdV 300,.v 9002⟩,
 ⟨103,[.si .i64 (.op .add .i64 (.op .mul .i64 (.op .sub .i64 (.v 200) (.lit 1)) (.lit 64)) (.op .sub .i64 (.v 400) (.lit 1)))],3,.si .i64 (.v 500),.v 9004⟩]
def hiPs2:List PEnt:=[⟨135,[.si .u64 (.op .and .u64 (.v 100) (.lit 15))],.si .i64 (.v 200)⟩,⟨135,[.si .u64 (.v 300)],.si .i64 (.v 400)⟩]
def hiS:SE:=.op .add .i64 (.op .add .i64 s1 (.v 9002)) (.v 9004)
theorem hi1_run:yP cx0 cP hiEs2 hiPs2 70 [] ⟨[((.cmp .lss (.op .sub .i64 (.v 200) (.lit 1)) (.lit 0)),false),((.cmp .eql (.v 300) (.lit 0)),false)],[]⟩ (.si .i64 (.v 500)) 3 hiS=0:=by decide +kernel
def hiVs (s g w k h:Int) (n:Nat):Nat->Int:=fun i=>match i / 100 with
 | 1=>s
 | 2=>g
 | 3=>w
 | 4=>k
 | 5=>h
 | 90=>if i=9004 then n else 1
 | _=>0
theorem zhT {a b:SE} {x y:Int} (ha:a.den E=x) (hb:b.den E=y) (h0:-9223372036854775808<=x - y) (h1:x - y<=9223372036854775807):SE.den E (.op .sub .i64 a b)=x - y:=by
 show jN .i64 (a.den E - b.den E)=_
 rw[ha,hb,z8,IntKind.wrap_i64];omega
theorem zfb {a b:SE} {x y:Int} (ha:a.den E=x) (hb:b.den E=y) (h0:-9223372036854775808<=x+y) (h1:x+y<=9223372036854775807):SE.den E (.op .add .i64 a b)=x+y:=by
 show jN .i64 (a.den E+b.den E)=_
 rw[ha,hb,z8,IntKind.wrap_i64];omega
theorem zhU {a b:SE} {x y:Int} (ha:a.den E=x) (hb:b.den E=y) (h0:-9223372036854775808<=x*y) (h1:x*y<=9223372036854775807):SE.den E (.op .mul .i64 a b)=x*y:=by
 show jN .i64 (a.den E*b.den E)=_
 rw[ha,hb,z8,IntKind.wrap_i64];omega
def topH (Q:Nat->List Nat):Option Nat->Int
 | none=>0
 | some p=>(hdN (Q p) 0:Nat)
theorem high_p (h:QInv TT f Q):∃ o,Top Q o/\zJ PP cP 70 [] f (.int .i64 (topH Q o)) f:=by
 obtain⟨s0,s15,_⟩:=h.sm
 have hand:∀ st (vs:Nat->Int) (rows:Nat->Nat->Int),vs 100=f 4->SE.den (jA cP.N st vs rows) (.op .and .u64 (.v 100) (.lit 15))=f 4:=fun st vs rows hv=>by
  have hv:SE.den (jA cP.N st vs rows) (.v 100)=f 4:=hv
  have:=zk3 (m:=15) 4 rfl (by omega) hv s0 (by omega)
  rw[this]
  show f 4 % 16=f 4
  omega
 by_cases h0:f 4=0
 ·refine⟨none,zrs h h0,zH (k:=0) (zD hC0 (by decide) hi0_run rfl (hiVs (f 4) 0 0 0 0 1) (fun _=>f) fun st=>⟨zc (k:=0) (m:=1) rfl rfl (by omega),zm ⟨f_lt ?_,trivial⟩ trivial,
   ⟨zi (k:=1) (zfv (a:=4) (by omega) f) (by omega) rfl (fun ρ=>rfl) (fun ρ=>rfl),trivial⟩,zn ⟨znS (hand st _ _ rfl) ⟨s0,by omega⟩ ?_,trivial⟩,fun ρ=>rfl,fun ρ=>rfl⟩)⟩
  ·rw[zhT (x:=0) (y:=1) rfl rfl (by omega) (by omega)]
   show (0:Int) - 1<0
   omega
  ·rw[h0];rfl
 ·obtain⟨g,k,hg,hk,b1,hw0,b2,ht⟩:=zrt h h0
  obtain⟨w0,w1,_⟩:=h.bm g hg
  have hp:64*g+k<256:=by omega
  obtain⟨n,pn,cn⟩:=ztP hp (zbj zd h hp).1
  refine⟨some (64*g+k),ht,0+1+1+n,by omega,?_⟩
  have hH:=zA zd h hp
  refine zD hC0 (by decide) hi1_run rfl (hiVs (f 4) ((g+1:Nat):Int) (f (8+g)) ((k+1:Nat):Int) (zl f (64*g+k)) n) (fun _=>f) fun st=>?_
  generalize hE:jA cP.N st (hiVs (f 4) ((g+1:Nat):Int) (f (8+g)) ((k+1:Nat):Int) (zl f (64*g+k)) n) (fun _=>f)=E'
  have v200:SE.den E' (.v 200)=((g+1:Nat):Int):=by rw[<- hE];rfl
  have v300:SE.den E' (.v 300)=f (8+g):=by rw[<- hE];rfl
  have v400:SE.den E' (.v 400)=((k+1:Nat):Int):=by rw[<- hE];rfl
  have d1:=zhT (b:=.lit 1) (y:=1) v200 rfl (by omega) (by omega)
  have d2:=zfb (a:=.lit 8) (x:=8) rfl d1 (by omega) (by omega)
  have d3:=zhU (b:=.lit 64) (y:=64) d1 rfl (by omega) (by omega)
  have d4:=zhT (b:=.lit 1) (y:=1) v400 rfl (by omega) (by omega)
  have d5:=zfb d3 d4 (by omega) (by omega)
  have hand':SE.den E' (.op .and .u64 (.v 100) (.lit 15))=f 4:=by rw[<- hE];exact hand st _ _ rfl
  have i200:E'.i 200=(Lib.bitLen (f 4).toNat:Nat):=by rw[<- hE,b1];rfl
  have i400:E'.i 400=(Lib.bitLen (f (8+g)).toNat:Nat):=by rw[<- hE,b2];rfl
  have l1:=znS hand' ⟨s0,by omega⟩ i200
  have l2:=znS v300 ⟨w0,w1⟩ i400
  have e2:SE.den E' (.op .add .i64 (.lit 8) (.op .sub .i64 (.v 200) (.lit 1)))=((8+g:Nat):Int):=by rw[d2];omega
  have e5:SE.den E' (.op .add .i64 (.op .mul .i64 (.op .sub .i64 (.v 200) (.lit 1)) (.lit 64)) (.op .sub .i64 (.v 400) (.lit 1)))=((64*g+k:Nat):Int):=by rw[d5];omega
  have z1:¬ SE.den E' (.op .sub .i64 (.v 200) (.lit 1))<0:=by rw[d1];omega
  have hret:∀ ρ,(V.si .i64 (.v 500)).γ E' ρ=.int .i64 (topH Q (some (64*g+k))):=fun ρ=>by
   rw[<- hE]
   exact vsi hH
  subst hE
  exact⟨zc (k:=0+1+1) (m:=n) (zc (k:=0+1) (m:=1) (zc (k:=0) (m:=1) rfl rfl (by omega)) rfl (by omega)) rfl pn,
   zm ⟨zjq (show (0:Int)<=_ by omega),yM (show SE.den _ _≠(0:Int) by rw[v300];exact hw0),trivial⟩ trivial,
   ⟨zi (k:=1) (zfv (a:=4) (by omega) f) (by omega) rfl (fun ρ=>rfl) (fun ρ=>rfl),zi (k:=1) (zfv (a:=8+g) (by omega) f) (by omega) rfl (fun ρ=>jQ (vsi e2)) (fun ρ=>rfl),
    zi cn pn rfl (fun ρ=>jQ (vsi e5)) (fun ρ=>rfl),trivial⟩,zn ⟨l1,l2,trivial⟩,fun ρ=>rfl,hret⟩
end Go.Ev.X
end
