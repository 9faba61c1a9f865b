import Derived.Test.YtcinokgfjdifbaaGreatMQz
set_option linter.unusedSimpArgs false
set_option linter.unusedVariables false
set_option maxRecDepth 100000
noncomputable section
namespace Go.Ev.X
open Go Go.Ev Go.Proofs
variable {TT:Nat->Prop} [SubT TT]
variable {f:Nat->Int} {Q:Nat->List Nat} {t:Nat}
theorem zbj {T:Nat->Prop} (hT:Thr T) (h:QInv T f Q) {p:Nat} (hp:p<256):W64 (f (256+p))/\W64 (f (8+p / 64))/\W64 (f 4):=by
 have h1:=zb9 hT h hp
 have h2:=zb6 hT h hp
 obtain⟨b0,b1,_⟩:=h.bm (p / 64) (by omega)
 obtain⟨s0,s1,_⟩:=h.sm
 refine⟨⟨?_,?_⟩,⟨b0,b1⟩,s0,by omega⟩ <;> rw[h.hd p hp] <;> omega
def zma (f:Nat->Int) (t:Nat) (ks:Nat->Int):Nat->Int:=fun i=>match i / 100 with
 | 0=>(t:Int)
 | 1=>ym (za f t) (zp f t) (i % 100)
 | 2=>if i % 100=0 then zl f (za f t).pr.toNat else zx f (za f t).pr.toNat
 | 90=>ks (i % 100)
 | _=>0
def ziz (f:Nat->Int) (t:Nat):Nat->Nat->Int:=fun q=>match q with
 | 0=>f
 | 1=>f
 | 2=>f
 | 3=>zg f t { za f t with q:=true }
 | 4=>yI (zg f t { za f t with q:=true }) (za f t).pr.toNat t t
 | _=>f
theorem zku:yP cx0 cP [⟨13,[(.si .i64 (.v 1))],1,(.tup [(tD 100),(.i .i64 0)]),(.v 9000)⟩,
 ⟨104,[(.si .i64 (.v 101))],2,(.tup [(.si .i64 (.v 200)),(.si .i64 (.v 201))]),(.v 9001)⟩,
 ⟨59,[(.si .i64 (.v 1)),(tA 100 (sv 100) (sv 101) (sv 102) (.b true) (.i .i64 0) (sv 105) (sv 106) (sv 107) (tv 108) (tv 109) (sv 110) (sv 111) (sv 112) (sv 113))],3,(.i .i64 0),(.v 9002)⟩,
 ⟨108,[(.si .i64 (.v 101)),(.si .i64 (.v 1)),(.si .i64 (.v 1))],4,(.tup []),(.v 9003)⟩]
 [] 66 [.si .i64 (.v 1)] ⟨[((.cmp .eql (.v 103) (.lit 1)),false),((.cmp .neq (.v 104) (.lit 0)),false),((.cmp .neq (.v 105) (.lit 0)),false),((.cmp .neq (.v 200) (.lit 0)),false)],[]⟩ (.i .i64 0) 4 s4=0:=by decide +kernel
theorem zsy {Q:Nat->List Nat} {f:Nat->Int} {t:Nat} (h:QInv TT f Q) (ht:TT t) (hq:(za f t).q=false) (he:Q (za f t).pr.toNat=[]):zJ PP cP 66 [.int .i64 t] (f) (.int .i64 0) (yI (zg f t { za f t with q:=true }) (za f t).pr.toNat t t):=by
 obtain⟨hp,hpe⟩:=yK h ht
 have hv:=zh (h.thr t ht)
 have htl:=zd.lo t ht
 have hth:=zd.hi t ht
 have hw:=zbj zd h hp
 obtain⟨z1,z2⟩:=h.free t ht hq
 have hni:=zb4 h hq hp
 have hH:zl f (za f t).pr.toNat=0:=by rw[zA zd h hp,he];rfl
 have hL:zx f (za f t).pr.toNat=0:=by rw[yd zd h hp,he];rfl
 have hv1:TV.Right { za f t with q:=true }:=⟨hv.st,hv.pr,hv.sl,hv.pv,hv.nx,hv.bl,hv.bd,hv.bo,hv.ha,hv.fk,hv.fa⟩
 obtain⟨k0,p0,c0⟩:=zH (jy ht (h.thr t ht))
 obtain⟨k1,p1,c1⟩:=zcZ hp hw.1
 obtain⟨k2,p2,c2⟩:=zH (zaA (f:=f) ht hv1)
 obtain⟨k3,p3,c3⟩:=za1 (f:=zg f t { za f t with q:=true }) (h:=t) (l:=t) hp (by omega) (by omega) (by rw[ze _ _ (by omega)];exact hw.2.1) (by rw[ze _ _ (by omega)];exact hw.2.2)
 exact⟨((((0+k0)+k1)+k2)+k3),by omega,zD hC0 (by decide) zku rfl (zma f t (ksL [k0,k1,k2,k3])) (ziz f t) fun st=>⟨(zc (k:=(((0+k0)+k1)+k2)) (m:=k3) (zc (k:=((0+k0)+k1)) (m:=k2) (zc (k:=(0+k0)) (m:=k1) (zc (k:=(0:Nat)) (m:=k0) rfl rfl p0) rfl p1) rfl p2) rfl p3),zm ⟨(sbq rfl).trans hq,yu z1,yu z2,yu hH,trivial⟩ trivial,
  ⟨zi c0 p0 rfl (fun ρ=>rfl) (fun ρ=>yD thA),
   zi c1 p1 rfl (fun ρ=>jQ (vsi hpe.symm)) (fun ρ=>rfl),
   zi c2 p2 rfl (fun ρ=>yY rfl (thG rfl rfl rfl rfl (show Value.int .i64 0=.int .i64 (za f t).pv by rw[z1]) rfl rfl rfl (vsb (sbq rfl)) (vsb (sbq rfl)) rfl rfl rfl rfl rfl rfl rfl rfl rfl rfl rfl rfl rfl rfl rfl rfl rfl rfl rfl rfl)) (fun ρ=>rfl),
   zi c3 p3 rfl (fun ρ=>zbF (vsi hpe.symm) rfl rfl) (fun ρ=>rfl),
   trivial⟩,
  zn trivial,fun ρ=>rfl,fun ρ=>rfl⟩⟩
def zkN (f:Nat->Int) (t:Nat) (ks:Nat->Int):Nat->Int:=fun i=>match i / 100 with
 | 0=>(t:Int)
 | 1=>ym (za f t) (zp f t) (i % 100)
 | 2=>if i % 100=0 then zl f (za f t).pr.toNat else zx f (za f t).pr.toNat
 | 90=>ks (i % 100)
 | _=>0
def zhN (f:Nat->Int) (t:Nat):Nat->Nat->Int:=fun q=>match q with
 | 0=>f
 | 1=>f
 | 2=>f
 | 3=>zg f t { za f t with q:=true }
 | 4=>yI (zg f t { za f t with q:=true }) (za f t).pr.toNat t t
 | _=>f
theorem ziE:yP cx0 cP [⟨13,[(.si .i64 (.v 1))],1,(.tup [(tD 100),(.i .i64 0)]),(.v 9000)⟩,
 ⟨104,[(.si .i64 (.v 101))],2,(.tup [(.si .i64 (.v 200)),(.si .i64 (.v 201))]),(.v 9001)⟩,
 ⟨59,[(.si .i64 (.v 1)),(tA 100 (sv 100) (sv 101) (sv 102) (.b true) (sv 104) (.i .i64 0) (sv 106) (sv 107) (tv 108) (tv 109) (sv 110) (sv 111) (sv 112) (sv 113))],3,(.i .i64 0),(.v 9002)⟩,
 ⟨108,[(.si .i64 (.v 101)),(.si .i64 (.v 1)),(.si .i64 (.v 1))],4,(.tup []),(.v 9003)⟩]
 [] 72 [.si .i64 (.v 1)] ⟨[((.cmp .eql (.v 103) (.lit 1)),false),((.cmp .neq (.v 104) (.lit 0)),false),((.cmp .neq (.v 105) (.lit 0)),false),((.cmp .neq (.v 200) (.lit 0)),false)],[]⟩ (.i .i64 0) 4 s4=0:=by decide +kernel
theorem zqP {Q:Nat->List Nat} {f:Nat->Int} {t:Nat} (h:QInv TT f Q) (ht:TT t) (hq:(za f t).q=false) (he:Q (za f t).pr.toNat=[]):zJ PP cP 72 [.int .i64 t] (f) (.int .i64 0) (yI (zg f t { za f t with q:=true }) (za f t).pr.toNat t t):=by
 obtain⟨hp,hpe⟩:=yK h ht
 have hv:=zh (h.thr t ht)
 have htl:=zd.lo t ht
 have hth:=zd.hi t ht
 have hw:=zbj zd h hp
 obtain⟨z1,z2⟩:=h.free t ht hq
 have hni:=zb4 h hq hp
 have hH:zl f (za f t).pr.toNat=0:=by rw[zA zd h hp,he];rfl
 have hL:zx f (za f t).pr.toNat=0:=by rw[yd zd h hp,he];rfl
 have hv1:TV.Right { za f t with q:=true }:=⟨hv.st,hv.pr,hv.sl,hv.pv,hv.nx,hv.bl,hv.bd,hv.bo,hv.ha,hv.fk,hv.fa⟩
 obtain⟨k0,p0,c0⟩:=zH (jy ht (h.thr t ht))
 obtain⟨k1,p1,c1⟩:=zcZ hp hw.1
 obtain⟨k2,p2,c2⟩:=zH (zaA (f:=f) ht hv1)
 obtain⟨k3,p3,c3⟩:=za1 (f:=zg f t { za f t with q:=true }) (h:=t) (l:=t) hp (by omega) (by omega) (by rw[ze _ _ (by omega)];exact hw.2.1) (by rw[ze _ _ (by omega)];exact hw.2.2)
 exact⟨((((0+k0)+k1)+k2)+k3),by omega,zD hC0 (by decide) ziE rfl (zkN f t (ksL [k0,k1,k2,k3])) (zhN f t) fun st=>⟨(zc (k:=(((0+k0)+k1)+k2)) (m:=k3) (zc (k:=((0+k0)+k1)) (m:=k2) (zc (k:=(0+k0)) (m:=k1) (zc (k:=(0:Nat)) (m:=k0) rfl rfl p0) rfl p1) rfl p2) rfl p3),zm ⟨(sbq rfl).trans hq,yu z1,yu z2,yu hH,trivial⟩ trivial,
  ⟨zi c0 p0 rfl (fun ρ=>rfl) (fun ρ=>yD thA),
   zi c1 p1 rfl (fun ρ=>jQ (vsi hpe.symm)) (fun ρ=>rfl),
   zi c2 p2 rfl (fun ρ=>yY rfl (thG rfl rfl rfl rfl rfl (show Value.int .i64 0=.int .i64 (za f t).nx by rw[z2]) rfl rfl (vsb (sbq rfl)) (vsb (sbq rfl)) rfl rfl rfl rfl rfl rfl rfl rfl rfl rfl rfl rfl rfl rfl rfl rfl rfl rfl rfl rfl)) (fun ρ=>rfl),
   zi c3 p3 rfl (fun ρ=>zbF (vsi hpe.symm) rfl rfl) (fun ρ=>rfl),
   trivial⟩,
  zn trivial,fun ρ=>rfl,fun ρ=>rfl⟩⟩
def zl8 (f:Nat->Int) (t z:Nat) (ks:Nat->Int):Nat->Int:=fun i=>match i / 100 with
 | 0=>(t:Int)
 | 1=>ym (za f t) (zp f t) (i % 100)
 | 2=>if i % 100=0 then zl f (za f t).pr.toNat else (z:Int)
 | 4=>ym (za (zg f t { za f t with q:=true,pv:=(z:Int) }) z) (zp (zg f t { za f t with q:=true,pv:=(z:Int) }) z) (i % 100)
 | 90=>ks (i % 100)
 | _=>0
def zix (f:Nat->Int) (t z:Nat):Nat->Nat->Int:=fun q=>match q with
 | 0=>f
 | 1=>f
 | 2=>f
 | 3=>zg f t { za f t with q:=true,pv:=(z:Int) }
 | 4=>zg f t { za f t with q:=true,pv:=(z:Int) }
 | 5=>zg (zg f t { za f t with q:=true,pv:=(z:Int) }) z { za (zg f t { za f t with q:=true,pv:=(z:Int) }) z with nx:=(t:Int) }
 | 6=>yI (zg (zg f t { za f t with q:=true,pv:=(z:Int) }) z { za (zg f t { za f t with q:=true,pv:=(z:Int) }) z with nx:=(t:Int) }) (za f t).pr.toNat (zl f (za f t).pr.toNat) t
 | _=>f
theorem zks:yP cx0 cP [⟨13,[(.si .i64 (.v 1))],1,(.tup [(tD 100),(.i .i64 0)]),(.v 9000)⟩,
 ⟨104,[(.si .i64 (.v 101))],2,(.tup [(.si .i64 (.v 200)),(.si .i64 (.v 201))]),(.v 9001)⟩,
 ⟨59,[(.si .i64 (.v 1)),(tA 100 (sv 100) (sv 101) (sv 102) (.b true) (sv 201) (sv 105) (sv 106) (sv 107) (tv 108) (tv 109) (sv 110) (sv 111) (sv 112) (sv 113))],3,(.i .i64 0),(.v 9002)⟩,
 ⟨13,[(.si .i64 (.v 201))],4,(.tup [(tD 400),(.i .i64 0)]),(.v 9003)⟩,
 ⟨59,[(.si .i64 (.v 201)),(tA 400 (sv 400) (sv 401) (sv 402) (tv 403) (sv 404) (sv 1) (sv 406) (sv 407) (tv 408) (tv 409) (sv 410) (sv 411) (sv 412) (sv 413))],5,(.i .i64 0),(.v 9004)⟩,
 ⟨108,[(.si .i64 (.v 101)),(.si .i64 (.v 200)),(.si .i64 (.v 1))],6,(.tup []),(.v 9005)⟩]
 [] 66 [.si .i64 (.v 1)] ⟨[((.cmp .eql (.v 103) (.lit 1)),false),((.cmp .neq (.v 104) (.lit 0)),false),((.cmp .neq (.v 105) (.lit 0)),false),((.cmp .neq (.v 200) (.lit 0)),true),((.cmp .eql (.v 200) (.lit 0)),false),((.cmp .neq (.v 201) (.lit 0)),true)],[]⟩ (.i .i64 0) 6 s6=0:=by decide +kernel
theorem zsw {Q:Nat->List Nat} {f:Nat->Int} {t:Nat} (h:QInv TT f Q) (ht:TT t) (hq:(za f t).q=false) {z:Nat} (he:Q (za f t).pr.toNat≠[]) (hzz:laN (Q (za f t).pr.toNat) 0=z):zJ PP cP 66 [.int .i64 t] (f) (.int .i64 0) (yI (zg (zg f t { za f t with q:=true,pv:=(z:Int) }) z { za (zg f t { za f t with q:=true,pv:=(z:Int) }) z with nx:=(t:Int) }) (za f t).pr.toNat (zl f (za f t).pr.toNat) t):=by
 obtain⟨hp,hpe⟩:=yK h ht
 have hv:=zh (h.thr t ht)
 have htl:=zd.lo t ht
 have hth:=zd.hi t ht
 have hw:=zbj zd h hp
 obtain⟨z1,z2⟩:=h.free t ht hq
 have hni:=zb4 h hq hp
 have hhd:=h.el _ _ hp (zw (n:=0) he)
 have hla:=h.el _ _ hp (zu (p:=0) he)
 have hhl:=zd.lo _ hhd.1
 have hhh:=zd.hi _ hhd.1
 have hll:=zd.lo _ hla.1
 have hlh:=zd.hi _ hla.1
 have hH':=zA zd h hp
 have hL':=yd zd h hp
 have hH:zl f (za f t).pr.toNat≠0:=by omega
 have hz:TT z:=hzz ▸ hla.1
 have hL:zx f (za f t).pr.toNat=(z:Nat):=by rw[hL',hzz]
 have hzt:z≠t:=fun e=>by
  have hm:=zu (p:=0) he
  rw[hzz,e]at hm
  exact hni hm
 have hzl:=zd.lo z hz
 have hzh:=zd.hi z hz
 have hz0:(z:Int)≠0:=by omega
 have hv1:TV.Right { za f t with q:=true,pv:=(z:Int) }:=⟨hv.st,hv.pr,hv.sl,(show 0<=(z:Int)/\(z:Int)<65536 by omega),hv.nx,hv.bl,hv.bd,hv.bo,hv.ha,hv.fk,hv.fa⟩
 have w1:=yU zd h.thr ht hv1
 have w1z:=w1.ri z hz
 have hvz:=zh w1z
 have hv2:TV.Right { za (zg f t { za f t with q:=true,pv:=(z:Int) }) z with nx:=(t:Int) }:=⟨hvz.st,hvz.pr,hvz.sl,hvz.pv,(show 0<=(t:Int)/\(t:Int)<65536 by omega),hvz.bl,hvz.bd,hvz.bo,hvz.ha,hvz.fk,hvz.fa⟩
 obtain⟨k0,p0,c0⟩:=zH (jy ht (h.thr t ht))
 obtain⟨k1,p1,c1⟩:=(show zJ PP cP _ [.int .i64 ((za f t).pr.toNat:Nat)] f (.tuple #[.int .i64 (zl f (za f t).pr.toNat),.int .i64 (z:Nat)]) f by have k:=zcZ hp hw.1;rw[hL]at k;exact k)
 obtain⟨k2,p2,c2⟩:=zH (zaA (f:=f) ht hv1)
 obtain⟨k3,p3,c3⟩:=zH (jy (f:=zg f t { za f t with q:=true,pv:=(z:Int) }) hz w1z)
 obtain⟨k4,p4,c4⟩:=zH (zaA (f:=zg f t { za f t with q:=true,pv:=(z:Int) }) hz hv2)
 obtain⟨k5,p5,c5⟩:=za1 (f:=zg (zg f t { za f t with q:=true,pv:=(z:Int) }) z { za (zg f t { za f t with q:=true,pv:=(z:Int) }) z with nx:=(t:Int) }) (h:=zl f (za f t).pr.toNat) (l:=t) hp (by omega) (by omega) (by rw[ze _ _ (by omega),ze _ _ (by omega)];exact hw.2.1) (by rw[ze _ _ (by omega),ze _ _ (by omega)];exact hw.2.2)
 exact⟨((((((0+k0)+k1)+k2)+k3)+k4)+k5),by omega,zD hC0 (by decide) zks rfl (zl8 f t z (ksL [k0,k1,k2,k3,k4,k5])) (zix f t z) fun st=>⟨(zc (k:=(((((0+k0)+k1)+k2)+k3)+k4)) (m:=k5) (zc (k:=((((0+k0)+k1)+k2)+k3)) (m:=k4) (zc (k:=(((0+k0)+k1)+k2)) (m:=k3) (zc (k:=((0+k0)+k1)) (m:=k2) (zc (k:=(0+k0)) (m:=k1) (zc (k:=(0:Nat)) (m:=k0) rfl rfl p0) rfl p1) rfl p2) rfl p3) rfl p4) rfl p5),zm ⟨(sbq rfl).trans hq,yu z1,yu z2,j7 hH,yM hH,j7 hz0,trivial⟩ trivial,
  ⟨zi c0 p0 rfl (fun ρ=>rfl) (fun ρ=>yD thA),
   zi c1 p1 rfl (fun ρ=>jQ (vsi hpe.symm)) (fun ρ=>rfl),
   zi c2 p2 rfl (fun ρ=>yY rfl (thG rfl rfl rfl rfl rfl rfl rfl rfl (vsb (sbq rfl)) (vsb (sbq rfl)) rfl rfl rfl rfl rfl rfl rfl rfl rfl rfl rfl rfl rfl rfl rfl rfl rfl rfl rfl rfl)) (fun ρ=>rfl),
   zi c3 p3 rfl (fun ρ=>rfl) (fun ρ=>yD thA),
   zi c4 p4 rfl (fun ρ=>yY rfl thA) (fun ρ=>rfl),
   zi c5 p5 rfl (fun ρ=>zbF (vsi hpe.symm) rfl rfl) (fun ρ=>rfl),
   trivial⟩,
  zn trivial,fun ρ=>rfl,fun ρ=>rfl⟩⟩
def zkL (f:Nat->Int) (t z:Nat) (ks:Nat->Int):Nat->Int:=fun i=>match i / 100 with
 | 0=>(t:Int)
 | 1=>ym (za f t) (zp f t) (i % 100)
 | 2=>if i % 100=0 then (z:Int) else zx f (za f t).pr.toNat
 | 4=>ym (za (zg f t { za f t with q:=true,nx:=(z:Int) }) z) (zp (zg f t { za f t with q:=true,nx:=(z:Int) }) z) (i % 100)
 | 90=>ks (i % 100)
 | _=>0
def zhL (f:Nat->Int) (t z:Nat):Nat->Nat->Int:=fun q=>match q with
 | 0=>f
 | 1=>f
 | 2=>f
 | 3=>zg f t { za f t with q:=true,nx:=(z:Int) }
 | 4=>zg f t { za f t with q:=true,nx:=(z:Int) }
 | 5=>zg (zg f t { za f t with q:=true,nx:=(z:Int) }) z { za (zg f t { za f t with q:=true,nx:=(z:Int) }) z with pv:=(t:Int) }
 | 6=>yI (zg (zg f t { za f t with q:=true,nx:=(z:Int) }) z { za (zg f t { za f t with q:=true,nx:=(z:Int) }) z with pv:=(t:Int) }) (za f t).pr.toNat t (zx f (za f t).pr.toNat)
 | _=>f
theorem ziC:yP cx0 cP [⟨13,[(.si .i64 (.v 1))],1,(.tup [(tD 100),(.i .i64 0)]),(.v 9000)⟩,
 ⟨104,[(.si .i64 (.v 101))],2,(.tup [(.si .i64 (.v 200)),(.si .i64 (.v 201))]),(.v 9001)⟩,
 ⟨59,[(.si .i64 (.v 1)),(tA 100 (sv 100) (sv 101) (sv 102) (.b true) (sv 104) (sv 200) (sv 106) (sv 107) (tv 108) (tv 109) (sv 110) (sv 111) (sv 112) (sv 113))],3,(.i .i64 0),(.v 9002)⟩,
 ⟨13,[(.si .i64 (.v 200))],4,(.tup [(tD 400),(.i .i64 0)]),(.v 9003)⟩,
 ⟨59,[(.si .i64 (.v 200)),(tA 400 (sv 400) (sv 401) (sv 402) (tv 403) (sv 1) (sv 405) (sv 406) (sv 407) (tv 408) (tv 409) (sv 410) (sv 411) (sv 412) (sv 413))],5,(.i .i64 0),(.v 9004)⟩,
 ⟨108,[(.si .i64 (.v 101)),(.si .i64 (.v 1)),(.si .i64 (.v 201))],6,(.tup []),(.v 9005)⟩]
 [] 72 [.si .i64 (.v 1)] ⟨[((.cmp .eql (.v 103) (.lit 1)),false),((.cmp .neq (.v 104) (.lit 0)),false),((.cmp .neq (.v 105) (.lit 0)),false),((.cmp .neq (.v 200) (.lit 0)),true),((.cmp .eql (.v 200) (.lit 0)),false)],[]⟩ (.i .i64 0) 6 s6=0:=by decide +kernel
theorem zqN {Q:Nat->List Nat} {f:Nat->Int} {t:Nat} (h:QInv TT f Q) (ht:TT t) (hq:(za f t).q=false) {z:Nat} (he:Q (za f t).pr.toNat≠[]) (hzz:hdN (Q (za f t).pr.toNat) 0=z):zJ PP cP 72 [.int .i64 t] (f) (.int .i64 0) (yI (zg (zg f t { za f t with q:=true,nx:=(z:Int) }) z { za (zg f t { za f t with q:=true,nx:=(z:Int) }) z with pv:=(t:Int) }) (za f t).pr.toNat t (zx f (za f t).pr.toNat)):=by
 obtain⟨hp,hpe⟩:=yK h ht
 have hv:=zh (h.thr t ht)
 have htl:=zd.lo t ht
 have hth:=zd.hi t ht
 have hw:=zbj zd h hp
 obtain⟨z1,z2⟩:=h.free t ht hq
 have hni:=zb4 h hq hp
 have hhd:=h.el _ _ hp (zw (n:=0) he)
 have hla:=h.el _ _ hp (zu (p:=0) he)
 have hhl:=zd.lo _ hhd.1
 have hhh:=zd.hi _ hhd.1
 have hll:=zd.lo _ hla.1
 have hlh:=zd.hi _ hla.1
 have hH':=zA zd h hp
 have hL':=yd zd h hp
 have hH:zl f (za f t).pr.toNat≠0:=by omega
 have hz:TT z:=hzz ▸ hhd.1
 have hHz:zl f (za f t).pr.toNat=(z:Nat):=by rw[hH',hzz]
 have hzt:z≠t:=fun e=>by
  have hm:=zw (n:=0) he
  rw[hzz,e]at hm
  exact hni hm
 have hzl:=zd.lo z hz
 have hzh:=zd.hi z hz
 have hz0:(z:Int)≠0:=by omega
 have hv1:TV.Right { za f t with q:=true,nx:=(z:Int) }:=⟨hv.st,hv.pr,hv.sl,hv.pv,(show 0<=(z:Int)/\(z:Int)<65536 by omega),hv.bl,hv.bd,hv.bo,hv.ha,hv.fk,hv.fa⟩
 have w1:=yU zd h.thr ht hv1
 have w1z:=w1.ri z hz
 have hvz:=zh w1z
 have hv2:TV.Right { za (zg f t { za f t with q:=true,nx:=(z:Int) }) z with pv:=(t:Int) }:=⟨hvz.st,hvz.pr,hvz.sl,(show 0<=(t:Int)/\(t:Int)<65536 by omega),hvz.nx,hvz.bl,hvz.bd,hvz.bo,hvz.ha,hvz.fk,hvz.fa⟩
 obtain⟨k0,p0,c0⟩:=zH (jy ht (h.thr t ht))
 obtain⟨k1,p1,c1⟩:=(show zJ PP cP _ [.int .i64 ((za f t).pr.toNat:Nat)] f (.tuple #[.int .i64 (z:Nat),.int .i64 (zx f (za f t).pr.toNat)]) f by have k:=zcZ hp hw.1;rw[hHz]at k;exact k)
 obtain⟨k2,p2,c2⟩:=zH (zaA (f:=f) ht hv1)
 obtain⟨k3,p3,c3⟩:=zH (jy (f:=zg f t { za f t with q:=true,nx:=(z:Int) }) hz w1z)
 obtain⟨k4,p4,c4⟩:=zH (zaA (f:=zg f t { za f t with q:=true,nx:=(z:Int) }) hz hv2)
 obtain⟨k5,p5,c5⟩:=za1 (f:=zg (zg f t { za f t with q:=true,nx:=(z:Int) }) z { za (zg f t { za f t with q:=true,nx:=(z:Int) }) z with pv:=(t:Int) }) (h:=t) (l:=zx f (za f t).pr.toNat) hp (by omega) (by omega) (by rw[ze _ _ (by omega),ze _ _ (by omega)];exact hw.2.1) (by rw[ze _ _ (by omega),ze _ _ (by omega)];exact hw.2.2)
 exact⟨((((((0+k0)+k1)+k2)+k3)+k4)+k5),by omega,zD hC0 (by decide) ziC rfl (zkL f t z (ksL [k0,k1,k2,k3,k4,k5])) (zhL f t z) fun st=>⟨(zc (k:=(((((0+k0)+k1)+k2)+k3)+k4)) (m:=k5) (zc (k:=((((0+k0)+k1)+k2)+k3)) (m:=k4) (zc (k:=(((0+k0)+k1)+k2)) (m:=k3) (zc (k:=((0+k0)+k1)) (m:=k2) (zc (k:=(0+k0)) (m:=k1) (zc (k:=(0:Nat)) (m:=k0) rfl rfl p0) rfl p1) rfl p2) rfl p3) rfl p4) rfl p5),zm ⟨(sbq rfl).trans hq,yu z1,yu z2,j7 hz0,yM hz0,trivial⟩ trivial,
  ⟨zi c0 p0 rfl (fun ρ=>rfl) (fun ρ=>yD thA),
   zi c1 p1 rfl (fun ρ=>jQ (vsi hpe.symm)) (fun ρ=>rfl),
   zi c2 p2 rfl (fun ρ=>yY rfl (thG rfl rfl rfl rfl rfl rfl rfl rfl (vsb (sbq rfl)) (vsb (sbq rfl)) rfl rfl rfl rfl rfl rfl rfl rfl rfl rfl rfl rfl rfl rfl rfl rfl rfl rfl rfl rfl)) (fun ρ=>rfl),
   zi c3 p3 rfl (fun ρ=>rfl) (fun ρ=>yD thA),
   zi c4 p4 rfl (fun ρ=>yY rfl thA) (fun ρ=>rfl),
   zi c5 p5 rfl (fun ρ=>zbF (vsi hpe.symm) rfl rfl) (fun ρ=>rfl),
   trivial⟩,
  zn trivial,fun ρ=>rfl,fun ρ=>rfl⟩⟩
end Go.Ev.X
end
