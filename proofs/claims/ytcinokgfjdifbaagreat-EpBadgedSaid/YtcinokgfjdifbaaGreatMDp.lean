import Derived.Test.YtcinokgfjdifbaaGreatMPp
set_option linter.unusedSimpArgs false
set_option linter.unusedVariables false
set_option maxRecDepth 100000
noncomputable section
namespace Go.Ev.X
open Go Go.Ev Go.Proofs
variable {TT:Nat->Prop} [SubT TT]
variable {f:Nat->Int} {Q:Nat->List Nat} {t:Nat}
theorem zch {t u:Nat} (h:t=u\/zbf t u) (f:Nat->Int) (v x:TV):thV x (zp (zg f t v) u)=thV x (zp f u):=by
 have e:∀ j,j<16->zp (zg f t v) u j=zp f u j:=fun j hj=>ze f v (by unfold zbf at h;omega)
 unfold thV
 rw[e 0 (by omega),e 1 (by omega),e 2 (by omega),e 3 (by omega),e 4 (by omega),e 5 (by omega),e 6 (by omega),e 7 (by omega),e 8 (by omega),e 9 (by omega),e 10 (by omega),e 11 (by omega),e 12 (by omega),e 13 (by omega),e 14 (by omega),e 15 (by omega)]
theorem zgd {t u:Nat} (ht:TT t) (hu:TT u):t=u\/zbf t u:=by
 by_cases e:t=u
 ·exact .inl e
 ·exact .inr (zd.ap t u ht hu e)
def zm2 (f:Nat->Int) (t:Nat) (ks:Nat->Int):Nat->Int:=fun i=>match i / 100 with
 | 0=>(t:Int)
 | 1=>ym (za f t) (zp f t) (i % 100)
 | 2=>if i % 100=0 then zl f (za f t).pr.toNat else zx f (za f t).pr.toNat
 | 90=>ks (i % 100)
 | _=>0
def ziN (f:Nat->Int) (t:Nat):Nat->Nat->Int:=fun q=>match q with
 | 0=>f
 | 1=>f
 | 2=>f
 | 3=>zg f t { za f t with q:=false,pv:=0,nx:=0 }
 | 4=>yI (zg f t { za f t with q:=false,pv:=0,nx:=0 }) (za f t).pr.toNat ((za f t).nx) ((za f t).pv)
 | _=>f
theorem zk2:yP cx0 cP [⟨13,[(.si .i64 (.v 1))],1,(.tup [(tD 100),(.i .i64 0)]),(.v 9000)⟩,
 ⟨104,[(.si .i64 (.v 101))],2,(.tup [(.si .i64 (.v 200)),(.si .i64 (.v 201))]),(.v 9001)⟩,
 ⟨59,[(.si .i64 (.v 1)),(tA 100 (sv 100) (sv 101) (sv 102) (.b false) (.i .i64 0) (.i .i64 0) (sv 106) (sv 107) (tv 108) (tv 109) (sv 110) (sv 111) (sv 112) (sv 113))],3,(.i .i64 0),(.v 9002)⟩,
 ⟨108,[(.si .i64 (.v 101)),(.si .i64 (.v 105)),(.si .i64 (.v 104))],4,(.tup []),(.v 9003)⟩]
 [] 71 [.si .i64 (.v 1)] ⟨[((.cmp .eql (.v 103) (.lit 1)),true),((.cmp .eql (.v 200) (.v 1)),true),((.cmp .eql (.v 201) (.v 1)),true),((.cmp .neq (.v 104) (.lit 0)),false),((.cmp .neq (.v 105) (.lit 0)),false)],[]⟩ (.i .i64 0) 4 s4=0:=by decide +kernel
theorem zuu {Q:Nat->List Nat} {f:Nat->Int} {t:Nat} (h:QInv TT f Q) (ht:TT t) (hq:(za f t).q=true) {a b:List Nat} (hab:Q (za f t).pr.toNat=a ++ t::b) (ha:a=[]) (hb:b=[])  : zJ PP cP 71 [.int .i64 t] (f) (.int .i64 0) (yI (zg f t { za f t with q:=false,pv:=0,nx:=0 }) (za f t).pr.toNat ((za f t).nx) ((za f t).pv)):=by
 obtain⟨hp,hpe⟩:=yK h ht
 have hv:=zh (h.thr t ht)
 have htl:=zd.lo t ht
 have hth:=zd.hi t ht
 have hw:=zbj zd h hp
 have hnd:=h.nd _ hp
 have hlk:=h.lk _ hp
 have hH':=zA zd h hp
 have hL':=yd zd h hp
 have hlt:=zb9 zd h hp
 have llt:=zb6 zd h hp
 rw[hab]at hnd hlk hH' hL' hlt llt
 rw[jP]at hH' hlt
 rw[jM]at hL' llt
 obtain⟨na,nb,nab⟩:=List.nodup_append.1 hnd
 have nb':=List.nodup_cons.1 nb
 have nta:t∉a:=fun hx=>nab t hx t (by simp) rfl
 have ntb:t∉b:=nb'.1
 obtain⟨lka,lkt⟩:=j5.1 hlk
 obtain⟨epv,enx,lkb⟩:=lkt
 have ma:∀ u,u∈a->TT u:=fun u hu=>(h.el _ u hp (by rw[hab];simp[hu])).1
 have mb:∀ u,u∈b->TT u:=fun u hu=>(h.el _ u hp (by rw[hab];simp[hu])).1
 subst ha
 have epv:(za f t).pv=0:=epv
 have hH:zl f (za f t).pr.toNat=(t:Int):=hH'
 subst hb
 have enx:(za f t).nx=0:=enx
 have hL:zx f (za f t).pr.toNat=(t:Int):=hL'
 have hv3:TV.Right { za f t with q:=false,pv:=0,nx:=0 }:=zae hv false (by omega) (by omega)
 obtain⟨k0,p0,c0⟩:=zH (jy ht (h.thr t ht))
 obtain⟨k1,p1,c1⟩:=zcZ hp hw.1
 obtain⟨k2,p2,c2⟩:=(show zJ PP cP _ [.int .i64 t,thV { za f t with q:=false,pv:=0,nx:=0 } (zp f t)] f (.int .i64 0) (zg f t { za f t with q:=false,pv:=0,nx:=0 }) by have k:=zH (zaA (f:=f) ht hv3);exact k)
 obtain⟨k3,p3,c3⟩:=za1 (f:=zg f t { za f t with q:=false,pv:=0,nx:=0 }) (h:=(za f t).nx) (l:=(za f t).pv) hp (hv.nx) (hv.pv) (by rw[ze _ _ (by omega)];exact hw.2.1) (by rw[ze _ _ (by omega)];exact hw.2.2)
 exact⟨((((0+k0)+k1)+k2)+k3),by omega,zD hC0 (by decide) zk2 rfl (zm2 f t (ksL [k0,k1,k2,k3])) (ziN f t) fun st=>⟨(zc (k:=(((0+k0)+k1)+k2)) (m:=k3) (zc (k:=((0+k0)+k1)) (m:=k2) (zc (k:=(0+k0)) (m:=k1) (zc (k:=(0:Nat)) (m:=k0) rfl rfl p0) rfl p1) rfl p2) rfl p3),zm ⟨(sbq rfl).trans hq,zal hH,zal hL,yu epv,yu enx,trivial⟩ trivial,
  ⟨zi c0 p0 rfl (fun ρ=>rfl) (fun ρ=>yD thA),
   zi c1 p1 rfl (fun ρ=>jQ (vsi hpe.symm)) (fun ρ=>rfl),
   zi c2 p2 rfl (fun ρ=>yY rfl (thG rfl rfl rfl rfl rfl rfl rfl rfl (vsb (sbq rfl)) (vsb (sbq rfl)) rfl rfl rfl rfl rfl rfl rfl rfl rfl rfl rfl rfl rfl rfl rfl rfl rfl rfl rfl rfl)) (fun ρ=>rfl),
   zi c3 p3 rfl (fun ρ=>zbF (vsi hpe.symm) rfl rfl) (fun ρ=>rfl),
   trivial⟩,
  zn trivial,fun ρ=>rfl,fun ρ=>rfl⟩⟩
def zm0 (f:Nat->Int) (t:Nat) (x:Nat) (ks:Nat->Int):Nat->Int:=fun i=>match i / 100 with
 | 0=>(t:Int)
 | 1=>ym (za f t) (zp f t) (i % 100)
 | 2=>if i % 100=0 then zl f (za f t).pr.toNat else zx f (za f t).pr.toNat
 | 3=>ym (za f x) (zp f x) (i % 100)
 | 90=>ks (i % 100)
 | _=>0
def ziL (f:Nat->Int) (t:Nat) (x:Nat):Nat->Nat->Int:=fun q=>match q with
 | 0=>f
 | 1=>f
 | 2=>f
 | 3=>f
 | 4=>zg f x { za f x with pv:=(za f t).pv }
 | 5=>zg (zg f x { za f x with pv:=(za f t).pv }) t { za f t with q:=false,pv:=0,nx:=0 }
 | 6=>yI (zg (zg f x { za f x with pv:=(za f t).pv }) t { za f t with q:=false,pv:=0,nx:=0 }) (za f t).pr.toNat ((za f t).nx) (zx f (za f t).pr.toNat)
 | _=>f
theorem zk0:yP cx0 cP [⟨13,[(.si .i64 (.v 1))],1,(.tup [(tD 100),(.i .i64 0)]),(.v 9000)⟩,
 ⟨104,[(.si .i64 (.v 101))],2,(.tup [(.si .i64 (.v 200)),(.si .i64 (.v 201))]),(.v 9001)⟩,
 ⟨13,[(.si .i64 (.v 105))],3,(.tup [(tD 300),(.i .i64 0)]),(.v 9002)⟩,
 ⟨59,[(.si .i64 (.v 105)),(tA 300 (sv 300) (sv 301) (sv 302) (tv 303) (sv 104) (sv 305) (sv 306) (sv 307) (tv 308) (tv 309) (sv 310) (sv 311) (sv 312) (sv 313))],4,(.i .i64 0),(.v 9003)⟩,
 ⟨59,[(.si .i64 (.v 1)),(tA 100 (sv 100) (sv 101) (sv 102) (.b false) (.i .i64 0) (.i .i64 0) (sv 106) (sv 107) (tv 108) (tv 109) (sv 110) (sv 111) (sv 112) (sv 113))],5,(.i .i64 0),(.v 9004)⟩,
 ⟨108,[(.si .i64 (.v 101)),(.si .i64 (.v 105)),(.si .i64 (.v 201))],6,(.tup []),(.v 9005)⟩]
 [] 71 [.si .i64 (.v 1)] ⟨[((.cmp .eql (.v 103) (.lit 1)),true),((.cmp .eql (.v 200) (.v 1)),true),((.cmp .eql (.v 201) (.v 1)),false),((.cmp .neq (.v 104) (.lit 0)),false),((.cmp .neq (.v 105) (.lit 0)),true)],[]⟩ (.i .i64 0) 6 s6=0:=by decide +kernel
theorem zus {Q:Nat->List Nat} {f:Nat->Int} {t:Nat} (h:QInv TT f Q) (ht:TT t) (hq:(za f t).q=true) {a b:List Nat} (hab:Q (za f t).pr.toNat=a ++ t::b) (ha:a=[]) {x:Nat} (hb:b≠[]) (hxb:hdN b 0=x)  : zJ PP cP 71 [.int .i64 t] (f) (.int .i64 0) (yI (zg (zg f x { za f x with pv:=(za f t).pv }) t { za f t with q:=false,pv:=0,nx:=0 }) (za f t).pr.toNat ((za f t).nx) (zx f (za f t).pr.toNat)):=by
 obtain⟨hp,hpe⟩:=yK h ht
 have hv:=zh (h.thr t ht)
 have htl:=zd.lo t ht
 have hth:=zd.hi t ht
 have hw:=zbj zd h hp
 have hnd:=h.nd _ hp
 have hlk:=h.lk _ hp
 have hH':=zA zd h hp
 have hL':=yd zd h hp
 have hlt:=zb9 zd h hp
 have llt:=zb6 zd h hp
 rw[hab]at hnd hlk hH' hL' hlt llt
 rw[jP]at hH' hlt
 rw[jM]at hL' llt
 obtain⟨na,nb,nab⟩:=List.nodup_append.1 hnd
 have nb':=List.nodup_cons.1 nb
 have nta:t∉a:=fun hx=>nab t hx t (by simp) rfl
 have ntb:t∉b:=nb'.1
 obtain⟨lka,lkt⟩:=j5.1 hlk
 obtain⟨epv,enx,lkb⟩:=lkt
 have ma:∀ u,u∈a->TT u:=fun u hu=>(h.el _ u hp (by rw[hab];simp[hu])).1
 have mb:∀ u,u∈b->TT u:=fun u hu=>(h.el _ u hp (by rw[hab];simp[hu])).1
 subst ha
 have epv:(za f t).pv=0:=epv
 have hH:zl f (za f t).pr.toNat=(t:Int):=hH'
 have hx:TT x:=hxb ▸ mb _ (zw (n:=0) hb)
 have hxt:x≠t:=fun e=>ntb (by rw[<- e,<- hxb];exact zw (n:=0) hb)
 have hxl:=zd.lo x hx
 have hxh:=zd.hi x hx
 rw[hxb]at enx
 have hL:zx f (za f t).pr.toNat≠(t:Int):=fun e=>ntb (by
  have hm:=zu (p:=t) hb
  have e2:=hL'.symm.trans e
  have e3:laN b t=t:=by exact_mod_cast e2
  rw[e3]at hm;exact hm)
 have hnn:(za f t).nx≠0:=by omega
 have hvx:=zh (h.thr x hx)
 have hv2:TV.Right { za f x with pv:=(za f t).pv }:=⟨hvx.st,hvx.pr,hvx.sl,hv.pv,hvx.nx,hvx.bl,hvx.bd,hvx.bo,hvx.ha,hvx.fk,hvx.fa⟩
 have hv3:TV.Right { za f t with q:=false,pv:=0,nx:=0 }:=zae hv false (by omega) (by omega)
 obtain⟨k0,p0,c0⟩:=zH (jy ht (h.thr t ht))
 obtain⟨k1,p1,c1⟩:=zcZ hp hw.1
 obtain⟨k2,p2,c2⟩:=zH (jy (f:=f) hx (h.thr x hx))
 obtain⟨k3,p3,c3⟩:=zH (zaA (f:=f) hx hv2)
 obtain⟨k4,p4,c4⟩:=(show zJ PP cP _ [.int .i64 t,thV { za f t with q:=false,pv:=0,nx:=0 } (zp f t)] (zg f x { za f x with pv:=(za f t).pv }) (.int .i64 0) (zg (zg f x { za f x with pv:=(za f t).pv }) t { za f t with q:=false,pv:=0,nx:=0 }) by have k:=zH (zaA (f:=(zg f x { za f x with pv:=(za f t).pv })) ht hv3);rw[zch (zgd hx ht)]at k;exact k)
 obtain⟨k5,p5,c5⟩:=za1 (f:=zg (zg f x { za f x with pv:=(za f t).pv }) t { za f t with q:=false,pv:=0,nx:=0 }) (h:=(za f t).nx) (l:=zx f (za f t).pr.toNat) hp (hv.nx) (by omega) (by rw[ze _ _ (by omega),ze _ _ (by omega)];exact hw.2.1) (by rw[ze _ _ (by omega),ze _ _ (by omega)];exact hw.2.2)
 exact⟨((((((0+k0)+k1)+k2)+k3)+k4)+k5),by omega,zD hC0 (by decide) zk0 rfl (zm0 f t x (ksL [k0,k1,k2,k3,k4,k5])) (ziL f t x) fun st=>⟨(zc (k:=(((((0+k0)+k1)+k2)+k3)+k4)) (m:=k5) (zc (k:=((((0+k0)+k1)+k2)+k3)) (m:=k4) (zc (k:=(((0+k0)+k1)+k2)) (m:=k3) (zc (k:=((0+k0)+k1)) (m:=k2) (zc (k:=(0+k0)) (m:=k1) (zc (k:=(0:Nat)) (m:=k0) rfl rfl p0) rfl p1) rfl p2) rfl p3) rfl p4) rfl p5),zm ⟨(sbq rfl).trans hq,zal hH,yM hL,yu epv,j7 hnn,trivial⟩ trivial,
  ⟨zi c0 p0 rfl (fun ρ=>rfl) (fun ρ=>yD thA),
   zi c1 p1 rfl (fun ρ=>jQ (vsi hpe.symm)) (fun ρ=>rfl),
   zi c2 p2 rfl (fun ρ=>jQ (vsi enx)) (fun ρ=>yD thA),
   zi c3 p3 rfl (fun ρ=>yY (vsi enx) thA) (fun ρ=>rfl),
   zi c4 p4 rfl (fun ρ=>yY rfl (thG rfl rfl rfl rfl rfl rfl rfl rfl (vsb (sbq rfl)) (vsb (sbq rfl)) rfl rfl rfl rfl rfl rfl rfl rfl rfl rfl rfl rfl rfl rfl rfl rfl rfl rfl rfl rfl)) (fun ρ=>rfl),
   zi c5 p5 rfl (fun ρ=>zbF (vsi hpe.symm) rfl rfl) (fun ρ=>rfl),
   trivial⟩,
  zn trivial,fun ρ=>rfl,fun ρ=>rfl⟩⟩
def zmY (f:Nat->Int) (t:Nat) (u:Nat) (ks:Nat->Int):Nat->Int:=fun i=>match i / 100 with
 | 0=>(t:Int)
 | 1=>ym (za f t) (zp f t) (i % 100)
 | 2=>if i % 100=0 then zl f (za f t).pr.toNat else zx f (za f t).pr.toNat
 | 3=>ym (za (f) u) (zp (f) u) (i % 100)
 | 90=>ks (i % 100)
 | _=>0
def ziJ (f:Nat->Int) (t:Nat) (u:Nat):Nat->Nat->Int:=fun q=>match q with
 | 0=>f
 | 1=>f
 | 2=>f
 | 3=>f
 | 4=>zg f u { za f u with nx:=(za f t).nx }
 | 5=>zg (zg f u { za f u with nx:=(za f t).nx }) t { za f t with q:=false,pv:=0,nx:=0 }
 | 6=>yI (zg (zg f u { za f u with nx:=(za f t).nx }) t { za f t with q:=false,pv:=0,nx:=0 }) (za f t).pr.toNat (zl f (za f t).pr.toNat) ((za f t).pv)
 | _=>f
theorem zkY:yP cx0 cP [⟨13,[(.si .i64 (.v 1))],1,(.tup [(tD 100),(.i .i64 0)]),(.v 9000)⟩,
 ⟨104,[(.si .i64 (.v 101))],2,(.tup [(.si .i64 (.v 200)),(.si .i64 (.v 201))]),(.v 9001)⟩,
 ⟨13,[(.si .i64 (.v 104))],3,(.tup [(tD 300),(.i .i64 0)]),(.v 9002)⟩,
 ⟨59,[(.si .i64 (.v 104)),(tA 300 (sv 300) (sv 301) (sv 302) (tv 303) (sv 304) (sv 105) (sv 306) (sv 307) (tv 308) (tv 309) (sv 310) (sv 311) (sv 312) (sv 313))],4,(.i .i64 0),(.v 9003)⟩,
 ⟨59,[(.si .i64 (.v 1)),(tA 100 (sv 100) (sv 101) (sv 102) (.b false) (.i .i64 0) (.i .i64 0) (sv 106) (sv 107) (tv 108) (tv 109) (sv 110) (sv 111) (sv 112) (sv 113))],5,(.i .i64 0),(.v 9004)⟩,
 ⟨108,[(.si .i64 (.v 101)),(.si .i64 (.v 200)),(.si .i64 (.v 104))],6,(.tup []),(.v 9005)⟩]
 [] 71 [.si .i64 (.v 1)] ⟨[((.cmp .eql (.v 103) (.lit 1)),true),((.cmp .eql (.v 200) (.v 1)),false),((.cmp .eql (.v 201) (.v 1)),true),((.cmp .neq (.v 104) (.lit 0)),true),((.cmp .neq (.v 105) (.lit 0)),false)],[]⟩ (.i .i64 0) 6 s6=0:=by decide +kernel
theorem zuq {Q:Nat->List Nat} {f:Nat->Int} {t:Nat} (h:QInv TT f Q) (ht:TT t) (hq:(za f t).q=true) {a b:List Nat} (hab:Q (za f t).pr.toNat=a ++ t::b) {u:Nat} (ha:a≠[]) (hua:laN a 0=u) (hb:b=[])  : zJ PP cP 71 [.int .i64 t] (f) (.int .i64 0) (yI (zg (zg f u { za f u with nx:=(za f t).nx }) t { za f t with q:=false,pv:=0,nx:=0 }) (za f t).pr.toNat (zl f (za f t).pr.toNat) ((za f t).pv)):=by
 obtain⟨hp,hpe⟩:=yK h ht
 have hv:=zh (h.thr t ht)
 have htl:=zd.lo t ht
 have hth:=zd.hi t ht
 have hw:=zbj zd h hp
 have hnd:=h.nd _ hp
 have hlk:=h.lk _ hp
 have hH':=zA zd h hp
 have hL':=yd zd h hp
 have hlt:=zb9 zd h hp
 have llt:=zb6 zd h hp
 rw[hab]at hnd hlk hH' hL' hlt llt
 rw[jP]at hH' hlt
 rw[jM]at hL' llt
 obtain⟨na,nb,nab⟩:=List.nodup_append.1 hnd
 have nb':=List.nodup_cons.1 nb
 have nta:t∉a:=fun hx=>nab t hx t (by simp) rfl
 have ntb:t∉b:=nb'.1
 obtain⟨lka,lkt⟩:=j5.1 hlk
 obtain⟨epv,enx,lkb⟩:=lkt
 have ma:∀ u,u∈a->TT u:=fun u hu=>(h.el _ u hp (by rw[hab];simp[hu])).1
 have mb:∀ u,u∈b->TT u:=fun u hu=>(h.el _ u hp (by rw[hab];simp[hu])).1
 have hu:TT u:=hua ▸ ma _ (zu (p:=0) ha)
 have hut:u≠t:=fun e=>nta (by rw[<- e,<- hua];exact zu (p:=0) ha)
 have hul:=zd.lo u hu
 have huh:=zd.hi u hu
 rw[hua]at epv
 have hH:zl f (za f t).pr.toNat≠(t:Int):=fun e=>nta (by
  have hm:=zw (n:=t) ha
  have e2:hdN a (hdN (t::b) 0)=t:=by rw[hH']at e;exact_mod_cast e
  rw[show hdN (t::b) 0=t from rfl]at e2
  rw[e2]at hm;exact hm)
 have hpn:(za f t).pv≠0:=by omega
 subst hb
 have enx:(za f t).nx=0:=enx
 have hL:zx f (za f t).pr.toNat=(t:Int):=hL'
 have hvu:=zh (h.thr u hu)
 have hv1:TV.Right { za f u with nx:=(za f t).nx }:=⟨hvu.st,hvu.pr,hvu.sl,hvu.pv,hv.nx,hvu.bl,hvu.bd,hvu.bo,hvu.ha,hvu.fk,hvu.fa⟩
 have w1:=yU zd h.thr hu hv1
 have hv3:TV.Right { za f t with q:=false,pv:=0,nx:=0 }:=zae hv false (by omega) (by omega)
 obtain⟨k0,p0,c0⟩:=zH (jy ht (h.thr t ht))
 obtain⟨k1,p1,c1⟩:=zcZ hp hw.1
 obtain⟨k2,p2,c2⟩:=zH (jy (f:=f) hu (h.thr u hu))
 obtain⟨k3,p3,c3⟩:=zH (zaA (f:=f) hu hv1)
 obtain⟨k4,p4,c4⟩:=(show zJ PP cP _ [.int .i64 t,thV { za f t with q:=false,pv:=0,nx:=0 } (zp f t)] (zg f u { za f u with nx:=(za f t).nx }) (.int .i64 0) (zg (zg f u { za f u with nx:=(za f t).nx }) t { za f t with q:=false,pv:=0,nx:=0 }) by have k:=zH (zaA (f:=(zg f u { za f u with nx:=(za f t).nx })) ht hv3);rw[zch (zgd hu ht)]at k;exact k)
 obtain⟨k5,p5,c5⟩:=za1 (f:=zg (zg f u { za f u with nx:=(za f t).nx }) t { za f t with q:=false,pv:=0,nx:=0 }) (h:=zl f (za f t).pr.toNat) (l:=(za f t).pv) hp (by omega) (hv.pv) (by rw[ze _ _ (by omega),ze _ _ (by omega)];exact hw.2.1) (by rw[ze _ _ (by omega),ze _ _ (by omega)];exact hw.2.2)
 exact⟨((((((0+k0)+k1)+k2)+k3)+k4)+k5),by omega,zD hC0 (by decide) zkY rfl (zmY f t u (ksL [k0,k1,k2,k3,k4,k5])) (ziJ f t u) fun st=>⟨(zc (k:=(((((0+k0)+k1)+k2)+k3)+k4)) (m:=k5) (zc (k:=((((0+k0)+k1)+k2)+k3)) (m:=k4) (zc (k:=(((0+k0)+k1)+k2)) (m:=k3) (zc (k:=((0+k0)+k1)) (m:=k2) (zc (k:=(0+k0)) (m:=k1) (zc (k:=(0:Nat)) (m:=k0) rfl rfl p0) rfl p1) rfl p2) rfl p3) rfl p4) rfl p5),zm ⟨(sbq rfl).trans hq,yM hH,zal hL,j7 hpn,yu enx,trivial⟩ trivial,
  ⟨zi c0 p0 rfl (fun ρ=>rfl) (fun ρ=>yD thA),
   zi c1 p1 rfl (fun ρ=>jQ (vsi hpe.symm)) (fun ρ=>rfl),
   zi c2 p2 rfl (fun ρ=>jQ (vsi epv)) (fun ρ=>yD thA),
   zi c3 p3 rfl (fun ρ=>yY (vsi epv) thA) (fun ρ=>rfl),
   zi c4 p4 rfl (fun ρ=>yY rfl (thG rfl rfl rfl rfl rfl rfl rfl rfl (vsb (sbq rfl)) (vsb (sbq rfl)) rfl rfl rfl rfl rfl rfl rfl rfl rfl rfl rfl rfl rfl rfl rfl rfl rfl rfl rfl rfl)) (fun ρ=>rfl),
   zi c5 p5 rfl (fun ρ=>zbF (vsi hpe.symm) rfl rfl) (fun ρ=>rfl),
   trivial⟩,
  zn trivial,fun ρ=>rfl,fun ρ=>rfl⟩⟩
def zmW (f:Nat->Int) (t:Nat) (u:Nat) (x:Nat) (ks:Nat->Int):Nat->Int:=fun i=>match i / 100 with
 | 0=>(t:Int)
 | 1=>ym (za f t) (zp f t) (i % 100)
 | 2=>if i % 100=0 then zl f (za f t).pr.toNat else zx f (za f t).pr.toNat
 | 3=>ym (za (f) u) (zp (f) u) (i % 100)
 | 5=>ym (za (zg f u { za f u with nx:=(za f t).nx }) x) (zp (zg f u { za f u with nx:=(za f t).nx }) x) (i % 100)
 | 90=>ks (i % 100)
 | _=>0
def ziH (f:Nat->Int) (t:Nat) (u:Nat) (x:Nat):Nat->Nat->Int:=fun q=>match q with
 | 0=>f
 | 1=>f
 | 2=>f
 | 3=>f
 | 4=>zg f u { za f u with nx:=(za f t).nx }
 | 5=>(zg f u { za f u with nx:=(za f t).nx })
 | 6=>zg (zg f u { za f u with nx:=(za f t).nx }) x { za (zg f u { za f u with nx:=(za f t).nx }) x with pv:=(za f t).pv }
 | 7=>zg (zg (zg f u { za f u with nx:=(za f t).nx }) x { za (zg f u { za f u with nx:=(za f t).nx }) x with pv:=(za f t).pv }) t { za f t with q:=false,pv:=0,nx:=0 }
 | 8=>yI (zg (zg (zg f u { za f u with nx:=(za f t).nx }) x { za (zg f u { za f u with nx:=(za f t).nx }) x with pv:=(za f t).pv }) t { za f t with q:=false,pv:=0,nx:=0 }) (za f t).pr.toNat (zl f (za f t).pr.toNat) (zx f (za f t).pr.toNat)
 | _=>f
theorem zkW:yP cx0 cP [⟨13,[(.si .i64 (.v 1))],1,(.tup [(tD 100),(.i .i64 0)]),(.v 9000)⟩,
 ⟨104,[(.si .i64 (.v 101))],2,(.tup [(.si .i64 (.v 200)),(.si .i64 (.v 201))]),(.v 9001)⟩,
 ⟨13,[(.si .i64 (.v 104))],3,(.tup [(tD 300),(.i .i64 0)]),(.v 9002)⟩,
 ⟨59,[(.si .i64 (.v 104)),(tA 300 (sv 300) (sv 301) (sv 302) (tv 303) (sv 304) (sv 105) (sv 306) (sv 307) (tv 308) (tv 309) (sv 310) (sv 311) (sv 312) (sv 313))],4,(.i .i64 0),(.v 9003)⟩,
 ⟨13,[(.si .i64 (.v 105))],5,(.tup [(tD 500),(.i .i64 0)]),(.v 9004)⟩,
 ⟨59,[(.si .i64 (.v 105)),(tA 500 (sv 500) (sv 501) (sv 502) (tv 503) (sv 104) (sv 505) (sv 506) (sv 507) (tv 508) (tv 509) (sv 510) (sv 511) (sv 512) (sv 513))],6,(.i .i64 0),(.v 9005)⟩,
 ⟨59,[(.si .i64 (.v 1)),(tA 100 (sv 100) (sv 101) (sv 102) (.b false) (.i .i64 0) (.i .i64 0) (sv 106) (sv 107) (tv 108) (tv 109) (sv 110) (sv 111) (sv 112) (sv 113))],7,(.i .i64 0),(.v 9006)⟩,
 ⟨108,[(.si .i64 (.v 101)),(.si .i64 (.v 200)),(.si .i64 (.v 201))],8,(.tup []),(.v 9007)⟩]
 [] 71 [.si .i64 (.v 1)] ⟨[((.cmp .eql (.v 103) (.lit 1)),true),((.cmp .eql (.v 200) (.v 1)),false),((.cmp .eql (.v 201) (.v 1)),false),((.cmp .neq (.v 104) (.lit 0)),true),((.cmp .neq (.v 105) (.lit 0)),true)],[]⟩ (.i .i64 0) 8 s8=0:=by decide +kernel
theorem zuo {Q:Nat->List Nat} {f:Nat->Int} {t:Nat} (h:QInv TT f Q) (ht:TT t) (hq:(za f t).q=true) {a b:List Nat} (hab:Q (za f t).pr.toNat=a ++ t::b) {u:Nat} (ha:a≠[]) (hua:laN a 0=u) {x:Nat} (hb:b≠[]) (hxb:hdN b 0=x)  : zJ PP cP 71 [.int .i64 t] (f) (.int .i64 0) (yI (zg (zg (zg f u { za f u with nx:=(za f t).nx }) x { za (zg f u { za f u with nx:=(za f t).nx }) x with pv:=(za f t).pv }) t { za f t with q:=false,pv:=0,nx:=0 }) (za f t).pr.toNat (zl f (za f t).pr.toNat) (zx f (za f t).pr.toNat)):=by
 obtain⟨hp,hpe⟩:=yK h ht
 have hv:=zh (h.thr t ht)
 have htl:=zd.lo t ht
 have hth:=zd.hi t ht
 have hw:=zbj zd h hp
 have hnd:=h.nd _ hp
 have hlk:=h.lk _ hp
 have hH':=zA zd h hp
 have hL':=yd zd h hp
 have hlt:=zb9 zd h hp
 have llt:=zb6 zd h hp
 rw[hab]at hnd hlk hH' hL' hlt llt
 rw[jP]at hH' hlt
 rw[jM]at hL' llt
 obtain⟨na,nb,nab⟩:=List.nodup_append.1 hnd
 have nb':=List.nodup_cons.1 nb
 have nta:t∉a:=fun hx=>nab t hx t (by simp) rfl
 have ntb:t∉b:=nb'.1
 obtain⟨lka,lkt⟩:=j5.1 hlk
 obtain⟨epv,enx,lkb⟩:=lkt
 have ma:∀ u,u∈a->TT u:=fun u hu=>(h.el _ u hp (by rw[hab];simp[hu])).1
 have mb:∀ u,u∈b->TT u:=fun u hu=>(h.el _ u hp (by rw[hab];simp[hu])).1
 have hu:TT u:=hua ▸ ma _ (zu (p:=0) ha)
 have hut:u≠t:=fun e=>nta (by rw[<- e,<- hua];exact zu (p:=0) ha)
 have hul:=zd.lo u hu
 have huh:=zd.hi u hu
 rw[hua]at epv
 have hH:zl f (za f t).pr.toNat≠(t:Int):=fun e=>nta (by
  have hm:=zw (n:=t) ha
  have e2:hdN a (hdN (t::b) 0)=t:=by rw[hH']at e;exact_mod_cast e
  rw[show hdN (t::b) 0=t from rfl]at e2
  rw[e2]at hm;exact hm)
 have hpn:(za f t).pv≠0:=by omega
 have hx:TT x:=hxb ▸ mb _ (zw (n:=0) hb)
 have hxt:x≠t:=fun e=>ntb (by rw[<- e,<- hxb];exact zw (n:=0) hb)
 have hxl:=zd.lo x hx
 have hxh:=zd.hi x hx
 rw[hxb]at enx
 have hL:zx f (za f t).pr.toNat≠(t:Int):=fun e=>ntb (by
  have hm:=zu (p:=t) hb
  have e2:=hL'.symm.trans e
  have e3:laN b t=t:=by exact_mod_cast e2
  rw[e3]at hm;exact hm)
 have hnn:(za f t).nx≠0:=by omega
 have hvu:=zh (h.thr u hu)
 have hv1:TV.Right { za f u with nx:=(za f t).nx }:=⟨hvu.st,hvu.pr,hvu.sl,hvu.pv,hv.nx,hvu.bl,hvu.bd,hvu.bo,hvu.ha,hvu.fk,hvu.fa⟩
 have w1:=yU zd h.thr hu hv1
 have hvx:=zh (w1.ri x hx)
 have hv2:TV.Right { za (zg f u { za f u with nx:=(za f t).nx }) x with pv:=(za f t).pv }:=⟨hvx.st,hvx.pr,hvx.sl,hv.pv,hvx.nx,hvx.bl,hvx.bd,hvx.bo,hvx.ha,hvx.fk,hvx.fa⟩
 have hv3:TV.Right { za f t with q:=false,pv:=0,nx:=0 }:=zae hv false (by omega) (by omega)
 obtain⟨k0,p0,c0⟩:=zH (jy ht (h.thr t ht))
 obtain⟨k1,p1,c1⟩:=zcZ hp hw.1
 obtain⟨k2,p2,c2⟩:=zH (jy (f:=f) hu (h.thr u hu))
 obtain⟨k3,p3,c3⟩:=zH (zaA (f:=f) hu hv1)
 obtain⟨k4,p4,c4⟩:=zH (jy (f:=(zg f u { za f u with nx:=(za f t).nx })) hx (w1.ri x hx))
 obtain⟨k5,p5,c5⟩:=zH (zaA (f:=(zg f u { za f u with nx:=(za f t).nx })) hx hv2)
 obtain⟨k6,p6,c6⟩:=(show zJ PP cP _ [.int .i64 t,thV { za f t with q:=false,pv:=0,nx:=0 } (zp f t)] (zg (zg f u { za f u with nx:=(za f t).nx }) x { za (zg f u { za f u with nx:=(za f t).nx }) x with pv:=(za f t).pv }) (.int .i64 0) (zg (zg (zg f u { za f u with nx:=(za f t).nx }) x { za (zg f u { za f u with nx:=(za f t).nx }) x with pv:=(za f t).pv }) t { za f t with q:=false,pv:=0,nx:=0 }) by have k:=zH (zaA (f:=(zg (zg f u { za f u with nx:=(za f t).nx }) x { za (zg f u { za f u with nx:=(za f t).nx }) x with pv:=(za f t).pv })) ht hv3);rw[zch (zgd hx ht),zch (zgd hu ht)]at k;exact k)
 obtain⟨k7,p7,c7⟩:=za1 (f:=zg (zg (zg f u { za f u with nx:=(za f t).nx }) x { za (zg f u { za f u with nx:=(za f t).nx }) x with pv:=(za f t).pv }) t { za f t with q:=false,pv:=0,nx:=0 }) (h:=zl f (za f t).pr.toNat) (l:=zx f (za f t).pr.toNat) hp (by omega) (by omega) (by rw[ze _ _ (by omega),ze _ _ (by omega),ze _ _ (by omega)];exact hw.2.1) (by rw[ze _ _ (by omega),ze _ _ (by omega),ze _ _ (by omega)];exact hw.2.2)
 exact⟨((((((((0+k0)+k1)+k2)+k3)+k4)+k5)+k6)+k7),by omega,zD hC0 (by decide) zkW rfl (zmW f t u x (ksL [k0,k1,k2,k3,k4,k5,k6,k7])) (ziH f t u x) fun st=>⟨(zc (k:=(((((((0+k0)+k1)+k2)+k3)+k4)+k5)+k6)) (m:=k7) (zc (k:=((((((0+k0)+k1)+k2)+k3)+k4)+k5)) (m:=k6) (zc (k:=(((((0+k0)+k1)+k2)+k3)+k4)) (m:=k5) (zc (k:=((((0+k0)+k1)+k2)+k3)) (m:=k4) (zc (k:=(((0+k0)+k1)+k2)) (m:=k3) (zc (k:=((0+k0)+k1)) (m:=k2) (zc (k:=(0+k0)) (m:=k1) (zc (k:=(0:Nat)) (m:=k0) rfl rfl p0) rfl p1) rfl p2) rfl p3) rfl p4) rfl p5) rfl p6) rfl p7),zm ⟨(sbq rfl).trans hq,yM hH,yM hL,j7 hpn,j7 hnn,trivial⟩ trivial,
  ⟨zi c0 p0 rfl (fun ρ=>rfl) (fun ρ=>yD thA),
   zi c1 p1 rfl (fun ρ=>jQ (vsi hpe.symm)) (fun ρ=>rfl),
   zi c2 p2 rfl (fun ρ=>jQ (vsi epv)) (fun ρ=>yD thA),
   zi c3 p3 rfl (fun ρ=>yY (vsi epv) thA) (fun ρ=>rfl),
   zi c4 p4 rfl (fun ρ=>jQ (vsi enx)) (fun ρ=>yD thA),
   zi c5 p5 rfl (fun ρ=>yY (vsi enx) thA) (fun ρ=>rfl),
   zi c6 p6 rfl (fun ρ=>yY rfl (thG rfl rfl rfl rfl rfl rfl rfl rfl (vsb (sbq rfl)) (vsb (sbq rfl)) rfl rfl rfl rfl rfl rfl rfl rfl rfl rfl rfl rfl rfl rfl rfl rfl rfl rfl rfl rfl)) (fun ρ=>rfl),
   zi c7 p7 rfl (fun ρ=>zbF (vsi hpe.symm) rfl rfl) (fun ρ=>rfl),
   trivial⟩,
  zn trivial,fun ρ=>rfl,fun ρ=>rfl⟩⟩
end Go.Ev.X
end
