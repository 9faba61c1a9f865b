import Derived.Test.YtcinokgfjdifbaaGreatMWy
import Derived.Test.YtcinokgfjdifbaaGreatE6
set_option linter.unusedSimpArgs false
set_option linter.unusedVariables false
set_option linter.unusedSectionVars false
set_option maxRecDepth 100000
noncomputable section
namespace Go.Ev.X
open Go Go.Ev Go.Proofs
variable {TT:Nat->Prop} [SubT TT]
variable {f:Nat->Int} {Q:Nat->List Nat} {P:Nat->TV} {c t:Nat}
def znU (f:Nat->Int) (t:Nat) (c:Nat) (ks:Nat->Int):Nat->Int:=fun i=>match i / 100 with
 | 0=>(t:Int)
 | 1=>ym (za f t) (zp f t) (i % 100)
 | 3=>(c:Int)
 | 90=>ks (i % 100)
 | _=>0
def zkb (f:Nat->Int) (t:Nat) (c:Nat):Nat->Nat->Int:=fun q=>match q with
 | 0=>f
 | 1=>f
 | 2=>yh f t
 | 3=>yh f t
 | _=>f
theorem zlN:yP cx0 cR [⟨62,[(.si .i64 (.v 1))],1,(.tup [(tD 100),(.i .i64 0)]),(.v 9000)⟩,
 ⟨83,[(.si .i64 (.v 1)),(tA 100 (.i .i64 1) (sv 101) (sv 102) (tv 103) (sv 104) (sv 105) (.i .i64 0) (.i .i64 0) (.b false) (.b false) (sv 110) (sv 111) (sv 112) (sv 113))],2,(.i .i64 0),(.v 9001)⟩,
 ⟨67,[],3,(.si .i64 (.v 300)),(.v 9002)⟩]
 [] 29 [.si .i64 (.v 1)] ⟨[((.cmp .neq (.v 300) (.v 1)),true),((.cmp .eql (.v 103) (.lit 1)),true)],[]⟩ (.tup []) 3 s3=0:=by decide +kernel
theorem wake0_r (s:SS TT f Q P c) (ht:TT t) (hq:(za f t).q=true) (hc:t≠c)  : zK PP cR 29 [.int .i64 t] (f) (.tuple #[]) (yh f t):=by
 have h:=s.q
 have hv:=zh (h.thr t ht)
 have htl:=zd.lo t ht
 have hth:=zd.hi t ht
 have hw:=zaE hv
 have w:=zcV zd h ht
 have hc1:yh f t 1=(c:Int):=by rw[w.lo 1 (by omega)];exact s.cur
 have hq1:(za (yh f t) t).q=true:=by rw[w.me];exact hq
 obtain⟨k0,p0,c0⟩:=zJ (jH ht (h.thr t ht))
 obtain⟨k1,p1,c1⟩:=zJ (zaB (f:=f) ht hw)
 obtain⟨k2,p2,c2⟩:=zds (f:=yh f t) s.ct hc1
 exact⟨(((0+k0)+k1)+k2),by omega,zH hC0 (by decide) zlN rfl (znU f t c (ksL [k0,k1,k2])) (zkb f t c) fun st=>⟨(zc (k:=((0+k0)+k1)) (m:=k2) (zc (k:=(0+k0)) (m:=k1) (zc (k:=(0:Nat)) (m:=k0) rfl rfl p0) rfl p1) rfl p2),zm ⟨zaq (show (c:Int)≠(t:Int) by omega),(sbq rfl).trans hq,trivial⟩ trivial,
  ⟨zi c0 p0 rfl (fun ρ=>rfl) (fun ρ=>yF thA),
   zi c1 p1 rfl (fun ρ=>jg rfl (thG rfl rfl rfl (vsb (sbq rfl)) rfl rfl rfl rfl rfl rfl rfl rfl rfl rfl rfl rfl rfl rfl rfl rfl rfl rfl rfl rfl rfl rfl rfl rfl rfl rfl)) (fun ρ=>rfl),
   zi c2 p2 rfl (fun ρ=>rfl) (fun ρ=>rfl),
   trivial⟩,
  zn trivial,fun ρ=>rfl,fun ρ=>rfl⟩⟩
def znS (f:Nat->Int) (t:Nat) (c:Nat) (ks:Nat->Int):Nat->Int:=fun i=>match i / 100 with
 | 0=>(t:Int)
 | 1=>ym (za f t) (zp f t) (i % 100)
 | 3=>(c:Int)
 | 90=>ks (i % 100)
 | _=>0
def zj9 (f:Nat->Int) (t:Nat) (c:Nat):Nat->Nat->Int:=fun q=>match q with
 | 0=>f
 | 1=>f
 | 2=>yh f t
 | 3=>yh f t
 | 4=>zbc (yh f t) t
 | _=>f
theorem zlL:yP cx0 cR [⟨62,[(.si .i64 (.v 1))],1,(.tup [(tD 100),(.i .i64 0)]),(.v 9000)⟩,
 ⟨83,[(.si .i64 (.v 1)),(tA 100 (.i .i64 1) (sv 101) (sv 102) (tv 103) (sv 104) (sv 105) (.i .i64 0) (.i .i64 0) (.b false) (.b false) (sv 110) (sv 111) (sv 112) (sv 113))],2,(.i .i64 0),(.v 9001)⟩,
 ⟨67,[],3,(.si .i64 (.v 300)),(.v 9002)⟩,
 ⟨68,[(.si .i64 (.v 1)),(.b false)],4,(.i .i64 0),(.v 9003)⟩]
 [] 29 [.si .i64 (.v 1)] ⟨[((.cmp .neq (.v 300) (.v 1)),true),((.cmp .eql (.v 103) (.lit 1)),false)],[]⟩ (.tup []) 4 s4=0:=by decide +kernel
theorem wake1_r (s:SS TT f Q P c) (ht:TT t) (hq:(za f t).q=false) (hc:t≠c)  : zK PP cR 29 [.int .i64 t] (f) (.tuple #[]) (zbc (yh f t) t):=by
 have h:=s.q
 have hv:=zh (h.thr t ht)
 have htl:=zd.lo t ht
 have hth:=zd.hi t ht
 have hw:=zaE hv
 have w:=zcV zd h ht
 have hc1:yh f t 1=(c:Int):=by rw[w.lo 1 (by omega)];exact s.cur
 have hq1:(za (yh f t) t).q=false:=by rw[w.me];exact hq
 obtain⟨k0,p0,c0⟩:=zJ (jH ht (h.thr t ht))
 obtain⟨k1,p1,c1⟩:=zJ (zaB (f:=f) ht hw)
 obtain⟨k2,p2,c2⟩:=zds (f:=yh f t) s.ct hc1
 obtain⟨k3,p3,c3⟩:=push_cr (zd5 zd h ht) ht hq1
 exact⟨((((0+k0)+k1)+k2)+k3),by omega,zH hC0 (by decide) zlL rfl (znS f t c (ksL [k0,k1,k2,k3])) (zj9 f t c) fun st=>⟨(zc (k:=(((0+k0)+k1)+k2)) (m:=k3) (zc (k:=((0+k0)+k1)) (m:=k2) (zc (k:=(0+k0)) (m:=k1) (zc (k:=(0:Nat)) (m:=k0) rfl rfl p0) rfl p1) rfl p2) rfl p3),zm ⟨zaq (show (c:Int)≠(t:Int) by omega),(sbq rfl).trans hq,trivial⟩ trivial,
  ⟨zi c0 p0 rfl (fun ρ=>rfl) (fun ρ=>yF thA),
   zi c1 p1 rfl (fun ρ=>jg rfl (thG rfl rfl rfl (vsb (sbq rfl)) rfl rfl rfl rfl rfl rfl rfl rfl rfl rfl rfl rfl rfl rfl rfl rfl rfl rfl rfl rfl rfl rfl rfl rfl rfl rfl)) (fun ρ=>rfl),
   zi c2 p2 rfl (fun ρ=>rfl) (fun ρ=>rfl),
   zi c3 p3 rfl (fun ρ=>rfl) (fun ρ=>rfl),
   trivial⟩,
  zn trivial,fun ρ=>rfl,fun ρ=>rfl⟩⟩
def znQ (f:Nat->Int) (t:Nat) (c:Nat) (ks:Nat->Int):Nat->Int:=fun i=>match i / 100 with
 | 0=>(t:Int)
 | 1=>ym (za f t) (zp f t) (i % 100)
 | 3=>(c:Int)
 | 90=>ks (i % 100)
 | _=>0
def zj7 (f:Nat->Int) (t:Nat) (c:Nat):Nat->Nat->Int:=fun q=>match q with
 | 0=>f
 | 1=>f
 | 2=>yh f t
 | 3=>yh f t
 | _=>f
theorem zlJ:yP cx0 cR [⟨62,[(.si .i64 (.v 1))],1,(.tup [(tD 100),(.i .i64 0)]),(.v 9000)⟩,
 ⟨83,[(.si .i64 (.v 1)),(tA 100 (.i .i64 1) (sv 101) (sv 102) (tv 103) (sv 104) (sv 105) (.i .i64 0) (.i .i64 0) (.b false) (.b false) (sv 110) (sv 111) (sv 112) (sv 113))],2,(.i .i64 0),(.v 9001)⟩,
 ⟨67,[],3,(.si .i64 (.v 300)),(.v 9002)⟩]
 [] 29 [.si .i64 (.v 1)] ⟨[((.cmp .neq (.v 300) (.v 1)),false)],[]⟩ (.tup []) 3 s3=0:=by decide +kernel
theorem wake2_r (s:SS TT f Q P c) (ht:TT t) (hc:t=c)  : zK PP cR 29 [.int .i64 t] (f) (.tuple #[]) (yh f t):=by
 have h:=s.q
 have hv:=zh (h.thr t ht)
 have htl:=zd.lo t ht
 have hth:=zd.hi t ht
 have hw:=zaE hv
 have w:=zcV zd h ht
 have hc1:yh f t 1=(c:Int):=by rw[w.lo 1 (by omega)];exact s.cur
 obtain⟨k0,p0,c0⟩:=zJ (jH ht (h.thr t ht))
 obtain⟨k1,p1,c1⟩:=zJ (zaB (f:=f) ht hw)
 obtain⟨k2,p2,c2⟩:=zds (f:=yh f t) s.ct hc1
 exact⟨(((0+k0)+k1)+k2),by omega,zH hC0 (by decide) zlJ rfl (znQ f t c (ksL [k0,k1,k2])) (zj7 f t c) fun st=>⟨(zc (k:=((0+k0)+k1)) (m:=k2) (zc (k:=(0+k0)) (m:=k1) (zc (k:=(0:Nat)) (m:=k0) rfl rfl p0) rfl p1) rfl p2),zm ⟨yD (show (c:Int)=(t:Int) by omega),trivial⟩ trivial,
  ⟨zi c0 p0 rfl (fun ρ=>rfl) (fun ρ=>yF thA),
   zi c1 p1 rfl (fun ρ=>jg rfl (thG rfl rfl rfl (vsb (sbq rfl)) rfl rfl rfl rfl rfl rfl rfl rfl rfl rfl rfl rfl rfl rfl rfl rfl rfl rfl rfl rfl rfl rfl rfl rfl rfl rfl)) (fun ρ=>rfl),
   zi c2 p2 rfl (fun ρ=>rfl) (fun ρ=>rfl),
   trivial⟩,
  zn trivial,fun ρ=>rfl,fun ρ=>rfl⟩⟩
theorem zo3 (s:SS TT f Q P c) (ht:TT t):zK PP cR 29 [.int .i64 t] f (.tuple #[]) (zdk f t):=by
 unfold zdk
 have hcur:f 1=(t:Int) ↔ t=c:=by rw[s.cur];omega
 by_cases hc:t=c
 ·rw[if_pos (.inl (hcur.2 hc))];exact wake2_r s ht hc
 ·cases hq:(za f t).q with
  | true=>rw[if_pos (.inr rfl)];exact wake0_r s ht hq hc
  | false => rw [if_neg (by rintro (h | h); · exact hc (hcur.1 h)
                            ·cases h)];exact wake1_r s ht hq hc
def zkB (f:Nat->Int) (c:Nat) (ks:Nat->Int):Nat->Int:=fun i=>match i / 100 with
 | 1=>0
 | 2=>(c:Int)
 | 90=>ks (i % 100)
 | _=>0
def zhA (f:Nat->Int) (c:Nat):Nat->Nat->Int:=fun q=>match q with
 | 0=>f
 | 1=>f
 | 2=>f
 | _=>f
theorem ziQ:yP cx0 cR [⟨74,[],1,(.si .i64 (.v 100)),(.v 9000)⟩,
 ⟨67,[],2,(.si .i64 (.v 200)),(.v 9001)⟩]
 [] 34 [] ⟨[((.cmp .eql (.v 100) (.lit 0)),true)],[]⟩ (.tup []) 2 s2=0:=by decide +kernel
theorem zqt {Q:Nat->List Nat} {P:Nat->TV} {c:Nat} {f:Nat->Int} (s:SS TT f Q P c) (hh:zK PP cR 74 [] f (.int .i64 (0:Nat)) f)  : zK PP cR 34 [] (f) (.tuple #[]) (f):=by
 obtain⟨k0,p0,c0⟩:=hh
 obtain⟨k1,p1,c1⟩:=zds s.ct s.cur
 exact⟨((0+k0)+k1),by omega,zH hC0 (by decide) ziQ rfl (zkB f c (ksL [k0,k1])) (zhA f c) fun st=>⟨(zc (k:=(0+k0)) (m:=k1) (zc (k:=(0:Nat)) (m:=k0) rfl rfl p0) rfl p1),zm ⟨zae rfl,trivial⟩ trivial,
  ⟨zi c0 p0 rfl (fun ρ=>rfl) (fun ρ=>rfl),
   zi c1 p1 rfl (fun ρ=>rfl) (fun ρ=>rfl),
   trivial⟩,
  zn trivial,fun ρ=>rfl,fun ρ=>rfl⟩⟩
def zkz (f:Nat->Int) (c h:Nat) (ks:Nat->Int):Nat->Int:=fun i=>match i / 100 with
 | 1=>(h:Int)
 | 2=>(c:Int)
 | 3=>ym (za f h) (zp f h) (i % 100)
 | 4=>ym (za f c) (zp f c) (i % 100)
 | 90=>ks (i % 100)
 | _=>0
def zhy (f:Nat->Int) (c h:Nat):Nat->Nat->Int:=fun q=>match q with
 | 0=>f
 | 1=>f
 | 2=>f
 | 3=>f
 | 4=>f
 | _=>f
theorem ziO:yP cx0 cR [⟨74,[],1,(.si .i64 (.v 100)),(.v 9000)⟩,
 ⟨67,[],2,(.si .i64 (.v 200)),(.v 9001)⟩,
 ⟨62,[(.si .i64 (.v 100))],3,(.tup [(tD 300),(.i .i64 0)]),(.v 9002)⟩,
 ⟨62,[(.si .i64 (.v 200))],4,(.tup [(tD 400),(.i .i64 0)]),(.v 9003)⟩]
 [] 34 [] ⟨[((.cmp .eql (.v 100) (.lit 0)),false),((.cmp .neq (.v 200) (.lit 0)),true),((.cmp .leq (.v 301) (.v 401)),true)],[]⟩ (.tup []) 4 s4=0:=by decide +kernel
theorem zqr {Q:Nat->List Nat} {P:Nat->TV} {c:Nat} {f:Nat->Int} (s:SS TT f Q P c) {h:Nat} (hT:TT h) (hq:(za f h).q=true) (hh:zK PP cR 74 [] f (.int .i64 (h:Nat)) f) (hcT:TT c) (hle:(za f h).pr<=(za f c).pr)  : zK PP cR 34 [] (f) (.tuple #[]) (f):=by
 have hq0:=s.q
 have hhl:=zd.lo h hT
 have hcl:=zd.lo c hcT
 obtain⟨k0,p0,c0⟩:=hh
 obtain⟨k1,p1,c1⟩:=zds s.ct s.cur
 obtain⟨k2,p2,c2⟩:=zJ (jH hT (hq0.thr h hT))
 obtain⟨k3,p3,c3⟩:=zJ (jH hcT (hq0.thr c hcT))
 exact⟨((((0+k0)+k1)+k2)+k3),by omega,zH hC0 (by decide) ziO rfl (zkz f c h (ksL [k0,k1,k2,k3])) (zhy f c h) fun st=>⟨(zc (k:=(((0+k0)+k1)+k2)) (m:=k3) (zc (k:=((0+k0)+k1)) (m:=k2) (zc (k:=(0+k0)) (m:=k1) (zc (k:=(0:Nat)) (m:=k0) rfl rfl p0) rfl p1) rfl p2) rfl p3),zm ⟨yB (show (h:Int)≠0 by omega),zaq (show (c:Int)≠0 by omega),za6 hle,trivial⟩ trivial,
  ⟨zi c0 p0 rfl (fun ρ=>rfl) (fun ρ=>rfl),
   zi c1 p1 rfl (fun ρ=>rfl) (fun ρ=>rfl),
   zi c2 p2 rfl (fun ρ=>rfl) (fun ρ=>yF thA),
   zi c3 p3 rfl (fun ρ=>rfl) (fun ρ=>yF thA),
   trivial⟩,
  zn trivial,fun ρ=>rfl,fun ρ=>rfl⟩⟩
def zkx (f:Nat->Int) (c h:Nat) (ks:Nat->Int):Nat->Int:=fun i=>match i / 100 with
 | 1=>(h:Int)
 | 2=>(c:Int)
 | 3=>ym (za f h) (zp f h) (i % 100)
 | 4=>ym (za f c) (zp f c) (i % 100)
 | 90=>ks (i % 100)
 | _=>0
def zhw (f:Nat->Int) (c h:Nat):Nat->Nat->Int:=fun q=>match q with
 | 0=>f
 | 1=>f
 | 2=>f
 | 3=>f
 | 4=>f
 | 5=>z4 f h
 | 6=>z6 (z4 f h) c
 | 7=>upd (z6 (z4 f h) c) 1 h
 | _=>f
theorem ziM:yP cx0 cR [⟨74,[],1,(.si .i64 (.v 100)),(.v 9000)⟩,
 ⟨67,[],2,(.si .i64 (.v 200)),(.v 9001)⟩,
 ⟨62,[(.si .i64 (.v 100))],3,(.tup [(tD 300),(.i .i64 0)]),(.v 9002)⟩,
 ⟨62,[(.si .i64 (.v 200))],4,(.tup [(tD 400),(.i .i64 0)]),(.v 9003)⟩,
 ⟨75,[(.si .i64 (.v 100))],5,(.i .i64 0),(.v 9004)⟩,
 ⟨68,[(.si .i64 (.v 200)),(.b true)],6,(.i .i64 0),(.v 9005)⟩,
 ⟨76,[(.si .i64 (.v 100))],7,(.i .i64 0),(.v 9006)⟩]
 [] 34 [] ⟨[((.cmp .eql (.v 100) (.lit 0)),false),((.cmp .neq (.v 200) (.lit 0)),true),((.cmp .leq (.v 301) (.v 401)),false)],[]⟩ (.tup []) 7 s7=0:=by decide +kernel
theorem zqp {Q:Nat->List Nat} {P:Nat->TV} {c:Nat} {f:Nat->Int} (s:SS TT f Q P c) {h:Nat} (hT:TT h) (hq:(za f h).q=true) (hh:zK PP cR 74 [] f (.int .i64 (h:Nat)) f) (hcT:TT c) (hgt:¬ (za f h).pr<=(za f c).pr)  : zK PP cR 34 [] (f) (.tuple #[]) (upd (z6 (z4 f h) c) 1 h):=by
 have hq0:=s.q
 have hhl:=zd.lo h hT
 have hcl:=zd.lo c hcT
 have hqc:(za (z4 f h) c).q=false:=by rw[((zdP zd s hT hq).2.1 c hcT).2,s.nc hcT];simp
 obtain⟨k0,p0,c0⟩:=hh
 obtain⟨k1,p1,c1⟩:=zds s.ct s.cur
 obtain⟨k2,p2,c2⟩:=zJ (jH hT (hq0.thr h hT))
 obtain⟨k3,p3,c3⟩:=zJ (jH hcT (hq0.thr c hcT))
 obtain⟨k4,p4,c4⟩:=zlj hq0 hT hq
 obtain⟨k5,p5,c5⟩:=zup (zif zd s hT hq) hcT hqc
 obtain⟨k6,p6,c6⟩:=zkD (.inr hT) (z6 (z4 f h) c)
 exact⟨(((((((0+k0)+k1)+k2)+k3)+k4)+k5)+k6),by omega,zH hC0 (by decide) ziM rfl (zkx f c h (ksL [k0,k1,k2,k3,k4,k5,k6])) (zhw f c h) fun st=>⟨(zc (k:=((((((0+k0)+k1)+k2)+k3)+k4)+k5)) (m:=k6) (zc (k:=(((((0+k0)+k1)+k2)+k3)+k4)) (m:=k5) (zc (k:=((((0+k0)+k1)+k2)+k3)) (m:=k4) (zc (k:=(((0+k0)+k1)+k2)) (m:=k3) (zc (k:=((0+k0)+k1)) (m:=k2) (zc (k:=(0+k0)) (m:=k1) (zc (k:=(0:Nat)) (m:=k0) rfl rfl p0) rfl p1) rfl p2) rfl p3) rfl p4) rfl p5) rfl p6),zm ⟨yB (show (h:Int)≠0 by omega),zaq (show (c:Int)≠0 by omega),f_len (show (za f c).pr<(za f h).pr by omega),trivial⟩ trivial,
  ⟨zi c0 p0 rfl (fun ρ=>rfl) (fun ρ=>rfl),
   zi c1 p1 rfl (fun ρ=>rfl) (fun ρ=>rfl),
   zi c2 p2 rfl (fun ρ=>rfl) (fun ρ=>yF thA),
   zi c3 p3 rfl (fun ρ=>rfl) (fun ρ=>yF thA),
   zi c4 p4 rfl (fun ρ=>rfl) (fun ρ=>rfl),
   zi c5 p5 rfl (fun ρ=>rfl) (fun ρ=>rfl),
   zi c6 p6 rfl (fun ρ=>rfl) (fun ρ=>rfl),
   trivial⟩,
  zn trivial,fun ρ=>rfl,fun ρ=>rfl⟩⟩
def zkv (f:Nat->Int) (h:Nat) (ks:Nat->Int):Nat->Int:=fun i=>match i / 100 with
 | 1=>(h:Int)
 | 2=>0
 | 90=>ks (i % 100)
 | _=>0
def zhu (f:Nat->Int) (h:Nat):Nat->Nat->Int:=fun q=>match q with
 | 0=>f
 | 1=>f
 | 2=>f
 | 3=>z4 f h
 | 4=>upd (z4 f h) 1 h
 | _=>f
theorem ziK:yP cx0 cR [⟨74,[],1,(.si .i64 (.v 100)),(.v 9000)⟩,
 ⟨67,[],2,(.si .i64 (.v 200)),(.v 9001)⟩,
 ⟨75,[(.si .i64 (.v 100))],3,(.i .i64 0),(.v 9002)⟩,
 ⟨76,[(.si .i64 (.v 100))],4,(.i .i64 0),(.v 9003)⟩]
 [] 34 [] ⟨[((.cmp .eql (.v 100) (.lit 0)),false),((.cmp .neq (.v 200) (.lit 0)),false)],[]⟩ (.tup []) 4 s4=0:=by decide +kernel
theorem zqn {Q:Nat->List Nat} {P:Nat->TV} {f:Nat->Int} (s:SS TT f Q P 0) {h:Nat} (hT:TT h) (hq:(za f h).q=true) (hh:zK PP cR 74 [] f (.int .i64 (h:Nat)) f)  : zK PP cR 34 [] (f) (.tuple #[]) (upd (z4 f h) 1 h):=by
 have hq0:=s.q
 have hhl:=zd.lo h hT
 obtain⟨k0,p0,c0⟩:=hh
 obtain⟨k1,p1,c1⟩:=zds s.ct s.cur
 obtain⟨k2,p2,c2⟩:=zlj hq0 hT hq
 obtain⟨k3,p3,c3⟩:=zkD (.inr hT) (z4 f h)
 exact⟨((((0+k0)+k1)+k2)+k3),by omega,zH hC0 (by decide) ziK rfl (zkv f h (ksL [k0,k1,k2,k3])) (zhu f h) fun st=>⟨(zc (k:=(((0+k0)+k1)+k2)) (m:=k3) (zc (k:=((0+k0)+k1)) (m:=k2) (zc (k:=(0+k0)) (m:=k1) (zc (k:=(0:Nat)) (m:=k0) rfl rfl p0) rfl p1) rfl p2) rfl p3),zm ⟨yB (show (h:Int)≠0 by omega),yD rfl,trivial⟩ trivial,
  ⟨zi c0 p0 rfl (fun ρ=>rfl) (fun ρ=>rfl),
   zi c1 p1 rfl (fun ρ=>rfl) (fun ρ=>rfl),
   zi c2 p2 rfl (fun ρ=>rfl) (fun ρ=>rfl),
   zi c3 p3 rfl (fun ρ=>rfl) (fun ρ=>rfl),
   trivial⟩,
  zn trivial,fun ρ=>rfl,fun ρ=>rfl⟩⟩
theorem zql (s:SS TT f Q P c) {h:Nat} (hT:TT h) (hq:(za f h).q=true) (hh:zK PP cR 74 [] f (.int .i64 (h:Nat)) f):zK PP cR 34 [] f (.tuple #[]) (zay f h):=by
 unfold zay
 rcases s.ct with rfl | hc
 ·rw[if_pos (show f 1=0 from s.cur)];exact zqn s hT hq hh
 ·have:=zd.lo c hc
  rw[if_neg (show ¬ f 1=0 by rw[s.cur];omega),zfx s]
  by_cases hle:(za f h).pr<=(za f c).pr
  ·rw[if_pos hle];exact zqr s hT hq hh hc hle
  ·rw[if_neg hle];exact zqp s hT hq hh hc hle
end Go.Ev.X
end
