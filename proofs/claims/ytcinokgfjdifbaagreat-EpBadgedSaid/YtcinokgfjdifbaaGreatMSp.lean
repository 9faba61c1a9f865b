import Derived.Test.YtcinokgfjdifbaaGreatMWx
import Derived.Test.YtcinokgfjdifbaaGreatE6
set_option linter.unusedSimpArgs false
set_option linter.unusedVariables false
set_option linter.unusedSectionVars false
set_option maxRecDepth 100000
noncomputable section
namespace Go.Ev.X
open Go Go.Ev Go.Proofs
variable {TT:Nat->Prop} [SubT TT]
variable {f:Nat->Int} {Q:Nat->List Nat} {P:Nat->TV} {c t:Nat}
def znz (f:Nat->Int) (t:Nat) (c:Nat) (ks:Nat->Int):Nat->Int:=fun i=>match i / 100 with
 | 0=>(t:Int)
 | 1=>ym (za f t) (zp f t) (i % 100)
 | 3=>(c:Int)
 | 4=>ym (za (yg f t) t) (zp (yg f t) t) (i % 100)
 | 90=>ks (i % 100)
 | _=>0
def zjP (f:Nat->Int) (t:Nat) (c:Nat):Nat->Nat->Int:=fun q=>match q with
 | 0=>f
 | 1=>f
 | 2=>yg f t
 | 3=>yg f t
 | 4=>yg f t
 | _=>f
theorem zlp:yP cx0 cP [⟨13,[(.si .i64 (.v 1))],1,(.tup [(tD 100),(.i .i64 0)]),(.v 9000)⟩,
 ⟨59,[(.si .i64 (.v 1)),(tA 100 (.i .i64 1) (sv 101) (sv 102) (tv 103) (sv 104) (sv 105) (.i .i64 0) (.i .i64 0) (.b false) (.b false) (sv 110) (sv 111) (sv 112) (sv 113))],2,(.i .i64 0),(.v 9001)⟩,
 ⟨95,[],3,(.si .i64 (.v 300)),(.v 9002)⟩,
 ⟨13,[(.si .i64 (.v 1))],4,(.tup [(tD 400),(.i .i64 0)]),(.v 9003)⟩]
 [] 28 [.si .i64 (.v 1)] ⟨[((.cmp .neq (.v 300) (.v 1)),true),((.cmp .eql (.v 403) (.lit 1)),true)],[]⟩ (.tup []) 4 s4=0:=by decide +kernel
theorem wake0_p (s:SS TT f Q P c) (ht:TT t) (hq:(za f t).q=true) (hc:t≠c)  : zJ PP cP 28 [.int .i64 t] (f) (.tuple #[]) (yg f t):=by
 have h:=s.q
 have hv:=zh (h.thr t ht)
 have htl:=zd.lo t ht
 have hth:=zd.hi t ht
 have hw:=zaC hv
 have w:=zcK zd h ht
 have hc1:yg f t 1=(c:Int):=by rw[w.lo 1 (by omega)];exact s.cur
 have hq1:(za (yg f t) t).q=true:=by rw[w.me];exact hq
 obtain⟨k0,p0,c0⟩:=zH (jy ht (h.thr t ht))
 obtain⟨k1,p1,c1⟩:=zH (zaA (f:=f) ht hw)
 obtain⟨k2,p2,c2⟩:=zdE (f:=yg f t) s.ct hc1
 obtain⟨k3,p3,c3⟩:=zH (jy (f:=yg f t) ht (zdO zd h ht |>.thr t ht))
 exact⟨((((0+k0)+k1)+k2)+k3),by omega,zD hC0 (by decide) zlp rfl (znz f t c (ksL [k0,k1,k2,k3])) (zjP f t c) fun st=>⟨(zc (k:=(((0+k0)+k1)+k2)) (m:=k3) (zc (k:=((0+k0)+k1)) (m:=k2) (zc (k:=(0+k0)) (m:=k1) (zc (k:=(0:Nat)) (m:=k0) rfl rfl p0) rfl p1) rfl p2) rfl p3),zm ⟨j7 (show (c:Int)≠(t:Int) by omega),(sbq rfl).trans hq1,trivial⟩ trivial,
  ⟨zi c0 p0 rfl (fun ρ=>rfl) (fun ρ=>yD thA),
   zi c1 p1 rfl (fun ρ=>yY rfl (thG rfl rfl rfl (vsb (sbq rfl)) rfl rfl rfl rfl rfl rfl rfl rfl rfl rfl rfl rfl rfl rfl rfl rfl rfl rfl rfl rfl rfl rfl rfl rfl rfl rfl)) (fun ρ=>rfl),
   zi c2 p2 rfl (fun ρ=>rfl) (fun ρ=>rfl),
   zi c3 p3 rfl (fun ρ=>rfl) (fun ρ=>yD thA),
   trivial⟩,
  zn trivial,fun ρ=>rfl,fun ρ=>rfl⟩⟩
def znx (f:Nat->Int) (t:Nat) (c:Nat) (ks:Nat->Int):Nat->Int:=fun i=>match i / 100 with
 | 0=>(t:Int)
 | 1=>ym (za f t) (zp f t) (i % 100)
 | 3=>(c:Int)
 | 4=>ym (za (yg f t) t) (zp (yg f t) t) (i % 100)
 | 90=>ks (i % 100)
 | _=>0
def zjN (f:Nat->Int) (t:Nat) (c:Nat):Nat->Nat->Int:=fun q=>match q with
 | 0=>f
 | 1=>f
 | 2=>yg f t
 | 3=>yg f t
 | 4=>yg f t
 | 5=>zbb (yg f t) t
 | _=>f
theorem zln:yP cx0 cP [⟨13,[(.si .i64 (.v 1))],1,(.tup [(tD 100),(.i .i64 0)]),(.v 9000)⟩,
 ⟨59,[(.si .i64 (.v 1)),(tA 100 (.i .i64 1) (sv 101) (sv 102) (tv 103) (sv 104) (sv 105) (.i .i64 0) (.i .i64 0) (.b false) (.b false) (sv 110) (sv 111) (sv 112) (sv 113))],2,(.i .i64 0),(.v 9001)⟩,
 ⟨95,[],3,(.si .i64 (.v 300)),(.v 9002)⟩,
 ⟨13,[(.si .i64 (.v 1))],4,(.tup [(tD 400),(.i .i64 0)]),(.v 9003)⟩,
 ⟨66,[(.si .i64 (.v 1))],5,(.i .i64 0),(.v 9004)⟩]
 [] 28 [.si .i64 (.v 1)] ⟨[((.cmp .neq (.v 300) (.v 1)),true),((.cmp .eql (.v 403) (.lit 1)),false)],[]⟩ (.tup []) 5 s5=0:=by decide +kernel
theorem wake1_p (s:SS TT f Q P c) (ht:TT t) (hq:(za f t).q=false) (hc:t≠c)  : zJ PP cP 28 [.int .i64 t] (f) (.tuple #[]) (zbb (yg f t) t):=by
 have h:=s.q
 have hv:=zh (h.thr t ht)
 have htl:=zd.lo t ht
 have hth:=zd.hi t ht
 have hw:=zaC hv
 have w:=zcK zd h ht
 have hc1:yg f t 1=(c:Int):=by rw[w.lo 1 (by omega)];exact s.cur
 have hq1:(za (yg f t) t).q=false:=by rw[w.me];exact hq
 obtain⟨k0,p0,c0⟩:=zH (jy ht (h.thr t ht))
 obtain⟨k1,p1,c1⟩:=zH (zaA (f:=f) ht hw)
 obtain⟨k2,p2,c2⟩:=zdE (f:=yg f t) s.ct hc1
 obtain⟨k3,p3,c3⟩:=zH (jy (f:=yg f t) ht (zdO zd h ht |>.thr t ht))
 obtain⟨k4,p4,c4⟩:=push_cp (zdO zd h ht) ht hq1
 exact⟨(((((0+k0)+k1)+k2)+k3)+k4),by omega,zD hC0 (by decide) zln rfl (znx f t c (ksL [k0,k1,k2,k3,k4])) (zjN f t c) fun st=>⟨(zc (k:=((((0+k0)+k1)+k2)+k3)) (m:=k4) (zc (k:=(((0+k0)+k1)+k2)) (m:=k3) (zc (k:=((0+k0)+k1)) (m:=k2) (zc (k:=(0+k0)) (m:=k1) (zc (k:=(0:Nat)) (m:=k0) rfl rfl p0) rfl p1) rfl p2) rfl p3) rfl p4),zm ⟨j7 (show (c:Int)≠(t:Int) by omega),(sbq rfl).trans hq1,trivial⟩ trivial,
  ⟨zi c0 p0 rfl (fun ρ=>rfl) (fun ρ=>yD thA),
   zi c1 p1 rfl (fun ρ=>yY rfl (thG rfl rfl rfl (vsb (sbq rfl)) rfl rfl rfl rfl rfl rfl rfl rfl rfl rfl rfl rfl rfl rfl rfl rfl rfl rfl rfl rfl rfl rfl rfl rfl rfl rfl)) (fun ρ=>rfl),
   zi c2 p2 rfl (fun ρ=>rfl) (fun ρ=>rfl),
   zi c3 p3 rfl (fun ρ=>rfl) (fun ρ=>yD thA),
   zi c4 p4 rfl (fun ρ=>rfl) (fun ρ=>rfl),
   trivial⟩,
  zn trivial,fun ρ=>rfl,fun ρ=>rfl⟩⟩
def znv (f:Nat->Int) (t:Nat) (c:Nat) (ks:Nat->Int):Nat->Int:=fun i=>match i / 100 with
 | 0=>(t:Int)
 | 1=>ym (za f t) (zp f t) (i % 100)
 | 3=>(c:Int)
 | 90=>ks (i % 100)
 | _=>0
def zjL (f:Nat->Int) (t:Nat) (c:Nat):Nat->Nat->Int:=fun q=>match q with
 | 0=>f
 | 1=>f
 | 2=>yg f t
 | 3=>yg f t
 | _=>f
theorem zll:yP cx0 cP [⟨13,[(.si .i64 (.v 1))],1,(.tup [(tD 100),(.i .i64 0)]),(.v 9000)⟩,
 ⟨59,[(.si .i64 (.v 1)),(tA 100 (.i .i64 1) (sv 101) (sv 102) (tv 103) (sv 104) (sv 105) (.i .i64 0) (.i .i64 0) (.b false) (.b false) (sv 110) (sv 111) (sv 112) (sv 113))],2,(.i .i64 0),(.v 9001)⟩,
 ⟨95,[],3,(.si .i64 (.v 300)),(.v 9002)⟩]
 [] 28 [.si .i64 (.v 1)] ⟨[((.cmp .neq (.v 300) (.v 1)),false)],[]⟩ (.tup []) 3 s3=0:=by decide +kernel
theorem wake2_p (s:SS TT f Q P c) (ht:TT t) (hc:t=c)  : zJ PP cP 28 [.int .i64 t] (f) (.tuple #[]) (yg f t):=by
 have h:=s.q
 have hv:=zh (h.thr t ht)
 have htl:=zd.lo t ht
 have hth:=zd.hi t ht
 have hw:=zaC hv
 have w:=zcK zd h ht
 have hc1:yg f t 1=(c:Int):=by rw[w.lo 1 (by omega)];exact s.cur
 obtain⟨k0,p0,c0⟩:=zH (jy ht (h.thr t ht))
 obtain⟨k1,p1,c1⟩:=zH (zaA (f:=f) ht hw)
 obtain⟨k2,p2,c2⟩:=zdE (f:=yg f t) s.ct hc1
 exact⟨(((0+k0)+k1)+k2),by omega,zD hC0 (by decide) zll rfl (znv f t c (ksL [k0,k1,k2])) (zjL f t c) fun st=>⟨(zc (k:=((0+k0)+k1)) (m:=k2) (zc (k:=(0+k0)) (m:=k1) (zc (k:=(0:Nat)) (m:=k0) rfl rfl p0) rfl p1) rfl p2),zm ⟨yu (show (c:Int)=(t:Int) by omega),trivial⟩ trivial,
  ⟨zi c0 p0 rfl (fun ρ=>rfl) (fun ρ=>yD thA),
   zi c1 p1 rfl (fun ρ=>yY rfl (thG rfl rfl rfl (vsb (sbq rfl)) rfl rfl rfl rfl rfl rfl rfl rfl rfl rfl rfl rfl rfl rfl rfl rfl rfl rfl rfl rfl rfl rfl rfl rfl rfl rfl)) (fun ρ=>rfl),
   zi c2 p2 rfl (fun ρ=>rfl) (fun ρ=>rfl),
   trivial⟩,
  zn trivial,fun ρ=>rfl,fun ρ=>rfl⟩⟩
theorem zoH (s:SS TT f Q P c) (ht:TT t):zJ PP cP 28 [.int .i64 t] f (.tuple #[]) (zc6 f t):=by
 unfold zc6
 have hcur:f 1=(t:Int) ↔ t=c:=by rw[s.cur];omega
 by_cases hc:t=c
 ·rw[if_pos (.inl (hcur.2 hc))];exact wake2_p s ht hc
 ·cases hq:(za f t).q with
  | true=>rw[if_pos (.inr rfl)];exact wake0_p s ht hq hc
  | false => rw [if_neg (by rintro (h | h); · exact hc (hcur.1 h)
                            ·cases h)];exact wake1_p s ht hq hc
def zke (f:Nat->Int) (c:Nat) (ks:Nat->Int):Nat->Int:=fun i=>match i / 100 with
 | 1=>0
 | 2=>(c:Int)
 | 90=>ks (i % 100)
 | _=>0
def zhe (f:Nat->Int) (c:Nat):Nat->Nat->Int:=fun q=>match q with
 | 0=>f
 | 1=>f
 | _=>f
theorem ziu:yP cx0 cP [⟨70,[],1,(.si .i64 (.v 100)),(.v 9000)⟩]
 [] 33 [] ⟨[((.cmp .eql (.v 100) (.lit 0)),true)],[]⟩ (.tup []) 1 s1=0:=by decide +kernel
theorem zp7 {Q:Nat->List Nat} {P:Nat->TV} {c:Nat} {f:Nat->Int} (s:SS TT f Q P c) (hh:zJ PP cP 70 [] f (.int .i64 (0:Nat)) f)  : zJ PP cP 33 [] (f) (.tuple #[]) (f):=by
 obtain⟨k0,p0,c0⟩:=hh
 exact⟨(0+k0),by omega,zD hC0 (by decide) ziu rfl (zke f c (ksL [k0])) (zhe f c) fun st=>⟨(zc (k:=(0:Nat)) (m:=k0) rfl rfl p0),zm ⟨zal rfl,trivial⟩ trivial,
  ⟨zi c0 p0 rfl (fun ρ=>rfl) (fun ρ=>rfl),
   trivial⟩,
  zn trivial,fun ρ=>rfl,fun ρ=>rfl⟩⟩
def zkc (f:Nat->Int) (c h:Nat) (ks:Nat->Int):Nat->Int:=fun i=>match i / 100 with
 | 1=>(h:Int)
 | 2=>(c:Int)
 | 3=>ym (za f h) (zp f h) (i % 100)
 | 4=>ym (za f c) (zp f c) (i % 100)
 | 90=>ks (i % 100)
 | _=>0
def zhc (f:Nat->Int) (c h:Nat):Nat->Nat->Int:=fun q=>match q with
 | 0=>f
 | 1=>f
 | 2=>f
 | 3=>f
 | 4=>f
 | _=>f
theorem zis:yP cx0 cP [⟨70,[],1,(.si .i64 (.v 100)),(.v 9000)⟩,
 ⟨95,[],2,(.si .i64 (.v 200)),(.v 9001)⟩,
 ⟨13,[(.si .i64 (.v 100))],3,(.tup [(tD 300),(.i .i64 0)]),(.v 9002)⟩,
 ⟨13,[(.si .i64 (.v 200))],4,(.tup [(tD 400),(.i .i64 0)]),(.v 9003)⟩]
 [] 33 [] ⟨[((.cmp .eql (.v 100) (.lit 0)),false),((.cmp .neq (.v 200) (.lit 0)),true),((.cmp .leq (.v 301) (.v 401)),true)],[]⟩ (.tup []) 4 s4=0:=by decide +kernel
theorem zp5 {Q:Nat->List Nat} {P:Nat->TV} {c:Nat} {f:Nat->Int} (s:SS TT f Q P c) {h:Nat} (hT:TT h) (hq:(za f h).q=true) (hh:zJ PP cP 70 [] f (.int .i64 (h:Nat)) f) (hcT:TT c) (hle:(za f h).pr<=(za f c).pr)  : zJ PP cP 33 [] (f) (.tuple #[]) (f):=by
 have hq0:=s.q
 have hhl:=zd.lo h hT
 have hcl:=zd.lo c hcT
 obtain⟨k0,p0,c0⟩:=hh
 obtain⟨k1,p1,c1⟩:=zdE s.ct s.cur
 obtain⟨k2,p2,c2⟩:=zH (jy hT (hq0.thr h hT))
 obtain⟨k3,p3,c3⟩:=zH (jy hcT (hq0.thr c hcT))
 exact⟨((((0+k0)+k1)+k2)+k3),by omega,zD hC0 (by decide) zis rfl (zkc f c h (ksL [k0,k1,k2,k3])) (zhc f c h) fun st=>⟨(zc (k:=(((0+k0)+k1)+k2)) (m:=k3) (zc (k:=((0+k0)+k1)) (m:=k2) (zc (k:=(0+k0)) (m:=k1) (zc (k:=(0:Nat)) (m:=k0) rfl rfl p0) rfl p1) rfl p2) rfl p3),zm ⟨yM (show (h:Int)≠0 by omega),j7 (show (c:Int)≠0 by omega),za4 hle,trivial⟩ trivial,
  ⟨zi c0 p0 rfl (fun ρ=>rfl) (fun ρ=>rfl),
   zi c1 p1 rfl (fun ρ=>rfl) (fun ρ=>rfl),
   zi c2 p2 rfl (fun ρ=>rfl) (fun ρ=>yD thA),
   zi c3 p3 rfl (fun ρ=>rfl) (fun ρ=>yD thA),
   trivial⟩,
  zn trivial,fun ρ=>rfl,fun ρ=>rfl⟩⟩
def zka (f:Nat->Int) (c h:Nat) (ks:Nat->Int):Nat->Int:=fun i=>match i / 100 with
 | 1=>(h:Int)
 | 2=>(c:Int)
 | 3=>ym (za f h) (zp f h) (i % 100)
 | 4=>ym (za f c) (zp f c) (i % 100)
 | 90=>ks (i % 100)
 | _=>0
def zha (f:Nat->Int) (c h:Nat):Nat->Nat->Int:=fun q=>match q with
 | 0=>f
 | 1=>f
 | 2=>f
 | 3=>f
 | 4=>f
 | 5=>zZ f h
 | 6=>z6 (zZ f h) c
 | 7=>upd (z6 (zZ f h) c) 1 h
 | _=>f
theorem ziq:yP cx0 cP [⟨70,[],1,(.si .i64 (.v 100)),(.v 9000)⟩,
 ⟨95,[],2,(.si .i64 (.v 200)),(.v 9001)⟩,
 ⟨13,[(.si .i64 (.v 100))],3,(.tup [(tD 300),(.i .i64 0)]),(.v 9002)⟩,
 ⟨13,[(.si .i64 (.v 200))],4,(.tup [(tD 400),(.i .i64 0)]),(.v 9003)⟩,
 ⟨71,[(.si .i64 (.v 100))],5,(.i .i64 0),(.v 9004)⟩,
 ⟨72,[(.si .i64 (.v 200))],6,(.i .i64 0),(.v 9005)⟩,
 ⟨110,[(.si .i64 (.v 100))],7,(.i .i64 0),(.v 9006)⟩]
 [] 33 [] ⟨[((.cmp .eql (.v 100) (.lit 0)),false),((.cmp .neq (.v 200) (.lit 0)),true),((.cmp .leq (.v 301) (.v 401)),false)],[]⟩ (.tup []) 7 s7=0:=by decide +kernel
theorem zp3 {Q:Nat->List Nat} {P:Nat->TV} {c:Nat} {f:Nat->Int} (s:SS TT f Q P c) {h:Nat} (hT:TT h) (hq:(za f h).q=true) (hh:zJ PP cP 70 [] f (.int .i64 (h:Nat)) f) (hcT:TT c) (hgt:¬ (za f h).pr<=(za f c).pr)  : zJ PP cP 33 [] (f) (.tuple #[]) (upd (z6 (zZ f h) c) 1 h):=by
 have hq0:=s.q
 have hhl:=zd.lo h hT
 have hcl:=zd.lo c hcT
 have hqc:(za (zZ f h) c).q=false:=by rw[((zdD zd s hT hq).2.1 c hcT).2,s.nc hcT];simp
 obtain⟨k0,p0,c0⟩:=hh
 obtain⟨k1,p1,c1⟩:=zdE s.ct s.cur
 obtain⟨k2,p2,c2⟩:=zH (jy hT (hq0.thr h hT))
 obtain⟨k3,p3,c3⟩:=zH (jy hcT (hq0.thr c hcT))
 obtain⟨k4,p4,c4⟩:=zkU hq0 hT hq
 obtain⟨k5,p5,c5⟩:=ztS (zhS zd s hT hq) hcT hqc
 obtain⟨k6,p6,c6⟩:=zkg (.inr hT) (z6 (zZ f h) c)
 exact⟨(((((((0+k0)+k1)+k2)+k3)+k4)+k5)+k6),by omega,zD hC0 (by decide) ziq rfl (zka f c h (ksL [k0,k1,k2,k3,k4,k5,k6])) (zha f c h) fun st=>⟨(zc (k:=((((((0+k0)+k1)+k2)+k3)+k4)+k5)) (m:=k6) (zc (k:=(((((0+k0)+k1)+k2)+k3)+k4)) (m:=k5) (zc (k:=((((0+k0)+k1)+k2)+k3)) (m:=k4) (zc (k:=(((0+k0)+k1)+k2)) (m:=k3) (zc (k:=((0+k0)+k1)) (m:=k2) (zc (k:=(0+k0)) (m:=k1) (zc (k:=(0:Nat)) (m:=k0) rfl rfl p0) rfl p1) rfl p2) rfl p3) rfl p4) rfl p5) rfl p6),zm ⟨yM (show (h:Int)≠0 by omega),j7 (show (c:Int)≠0 by omega),f_len (show (za f c).pr<(za f h).pr by omega),trivial⟩ trivial,
  ⟨zi c0 p0 rfl (fun ρ=>rfl) (fun ρ=>rfl),
   zi c1 p1 rfl (fun ρ=>rfl) (fun ρ=>rfl),
   zi c2 p2 rfl (fun ρ=>rfl) (fun ρ=>yD thA),
   zi c3 p3 rfl (fun ρ=>rfl) (fun ρ=>yD thA),
   zi c4 p4 rfl (fun ρ=>rfl) (fun ρ=>rfl),
   zi c5 p5 rfl (fun ρ=>rfl) (fun ρ=>rfl),
   zi c6 p6 rfl (fun ρ=>rfl) (fun ρ=>rfl),
   trivial⟩,
  zn trivial,fun ρ=>rfl,fun ρ=>rfl⟩⟩
def zj8 (f:Nat->Int) (h:Nat) (ks:Nat->Int):Nat->Int:=fun i=>match i / 100 with
 | 1=>(h:Int)
 | 2=>0
 | 90=>ks (i % 100)
 | _=>0
def zg8 (f:Nat->Int) (h:Nat):Nat->Nat->Int:=fun q=>match q with
 | 0=>f
 | 1=>f
 | 2=>f
 | 3=>zZ f h
 | 4=>upd (zZ f h) 1 h
 | _=>f
theorem zin:yP cx0 cP [⟨70,[],1,(.si .i64 (.v 100)),(.v 9000)⟩,
 ⟨95,[],2,(.si .i64 (.v 200)),(.v 9001)⟩,
 ⟨71,[(.si .i64 (.v 100))],3,(.i .i64 0),(.v 9002)⟩,
 ⟨110,[(.si .i64 (.v 100))],4,(.i .i64 0),(.v 9003)⟩]
 [] 33 [] ⟨[((.cmp .eql (.v 100) (.lit 0)),false),((.cmp .neq (.v 200) (.lit 0)),false)],[]⟩ (.tup []) 4 s4=0:=by decide +kernel
theorem zp1 {Q:Nat->List Nat} {P:Nat->TV} {f:Nat->Int} (s:SS TT f Q P 0) {h:Nat} (hT:TT h) (hq:(za f h).q=true) (hh:zJ PP cP 70 [] f (.int .i64 (h:Nat)) f)  : zJ PP cP 33 [] (f) (.tuple #[]) (upd (zZ f h) 1 h):=by
 have hq0:=s.q
 have hhl:=zd.lo h hT
 obtain⟨k0,p0,c0⟩:=hh
 obtain⟨k1,p1,c1⟩:=zdE s.ct s.cur
 obtain⟨k2,p2,c2⟩:=zkU hq0 hT hq
 obtain⟨k3,p3,c3⟩:=zkg (.inr hT) (zZ f h)
 exact⟨((((0+k0)+k1)+k2)+k3),by omega,zD hC0 (by decide) zin rfl (zj8 f h (ksL [k0,k1,k2,k3])) (zg8 f h) fun st=>⟨(zc (k:=(((0+k0)+k1)+k2)) (m:=k3) (zc (k:=((0+k0)+k1)) (m:=k2) (zc (k:=(0+k0)) (m:=k1) (zc (k:=(0:Nat)) (m:=k0) rfl rfl p0) rfl p1) rfl p2) rfl p3),zm ⟨yM (show (h:Int)≠0 by omega),yu rfl,trivial⟩ trivial,
  ⟨zi c0 p0 rfl (fun ρ=>rfl) (fun ρ=>rfl),
   zi c1 p1 rfl (fun ρ=>rfl) (fun ρ=>rfl),
   zi c2 p2 rfl (fun ρ=>rfl) (fun ρ=>rfl),
   zi c3 p3 rfl (fun ρ=>rfl) (fun ρ=>rfl),
   trivial⟩,
  zn trivial,fun ρ=>rfl,fun ρ=>rfl⟩⟩
theorem zpZ (s:SS TT f Q P c) {h:Nat} (hT:TT h) (hq:(za f h).q=true) (hh:zJ PP cP 70 [] f (.int .i64 (h:Nat)) f):zJ PP cP 33 [] f (.tuple #[]) (zau f h):=by
 unfold zau
 rcases s.ct with rfl | hc
 ·rw[if_pos (show f 1=0 from s.cur)];exact zp1 s hT hq hh
 ·have:=zd.lo c hc
  rw[if_neg (show ¬ f 1=0 by rw[s.cur];omega),zfc s]
  by_cases hle:(za f h).pr<=(za f c).pr
  ·rw[if_pos hle];exact zp5 s hT hq hh hc hle
  ·rw[if_neg hle];exact zp3 s hT hq hh hc hle
end Go.Ev.X
end
