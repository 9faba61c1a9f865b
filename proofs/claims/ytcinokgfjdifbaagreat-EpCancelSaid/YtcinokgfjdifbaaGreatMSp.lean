import Derived.Test.YtcinokgfjdifbaaGreatMWx
import Derived.Test.YtcinokgfjdifbaaGreatE6
set_option linter.unusedSimpArgs false
set_option linter.unusedVariables false
set_option linter.unusedSectionVars false
set_option maxRecDepth 100000
noncomputable section
namespace Go.Ev.X
open Go Go.Ev Go.Proofs
variable {TT:Nat->Prop} [SubT TT]
variable {f:Nat->Int} {Q:Nat->List Nat} {P:Nat->TV} {c t:Nat}
def znV (f:Nat->Int) (t:Nat) (c:Nat) (ks:Nat->Int):Nat->Int:=fun i=>match i / 100 with
 | 0=>(t:Int)
 | 1=>ym (za f t) (zp f t) (i % 100)
 | 3=>(c:Int)
 | 4=>ym (za (yh f t) t) (zp (yh f t) t) (i % 100)
 | 90=>ks (i % 100)
 | _=>0
def zkc (f:Nat->Int) (t:Nat) (c:Nat):Nat->Nat->Int:=fun q=>match q with
 | 0=>f
 | 1=>f
 | 2=>yh f t
 | 3=>yh f t
 | 4=>yh f t
 | _=>f
theorem zlO:yP cx0 cP [⟨13,[(.si .i64 (.v 1))],1,(.tup [(tD 100),(.i .i64 0)]),(.v 9000)⟩,
 ⟨59,[(.si .i64 (.v 1)),(tA 100 (.i .i64 1) (sv 101) (sv 102) (tv 103) (sv 104) (sv 105) (.i .i64 0) (.i .i64 0) (.b false) (.b false) (sv 110) (sv 111) (sv 112) (sv 113))],2,(.i .i64 0),(.v 9001)⟩,
 ⟨95,[],3,(.si .i64 (.v 300)),(.v 9002)⟩,
 ⟨13,[(.si .i64 (.v 1))],4,(.tup [(tD 400),(.i .i64 0)]),(.v 9003)⟩]
 [] 28 [.si .i64 (.v 1)] ⟨[((.cmp .neq (.v 300) (.v 1)),true),((.cmp .eql (.v 403) (.lit 1)),true)],[]⟩ (.tup []) 4 s4=0:=by decide +kernel
theorem wake0_p (s:SS TT f Q P c) (ht:TT t) (hq:(za f t).q=true) (hc:t≠c)  : zK PP cP 28 [.int .i64 t] (f) (.tuple #[]) (yh f t):=by
 have h:=s.q
 have hv:=zh (h.thr t ht)
 have htl:=zd.lo t ht
 have hth:=zd.hi t ht
 have hw:=zaE hv
 have w:=zcV zd h ht
 have hc1:yh f t 1=(c:Int):=by rw[w.lo 1 (by omega)];exact s.cur
 have hq1:(za (yh f t) t).q=true:=by rw[w.me];exact hq
 obtain⟨k0,p0,c0⟩:=zJ (jB ht (h.thr t ht))
 obtain⟨k1,p1,c1⟩:=zJ (zaC (f:=f) ht hw)
 obtain⟨k2,p2,c2⟩:=zdQ (f:=yh f t) s.ct hc1
 obtain⟨k3,p3,c3⟩:=zJ (jB (f:=yh f t) ht (zd5 zd h ht |>.thr t ht))
 exact⟨((((0+k0)+k1)+k2)+k3),by omega,zH hC0 (by decide) zlO rfl (znV f t c (ksL [k0,k1,k2,k3])) (zkc f t c) fun st=>⟨(zc (k:=(((0+k0)+k1)+k2)) (m:=k3) (zc (k:=((0+k0)+k1)) (m:=k2) (zc (k:=(0+k0)) (m:=k1) (zc (k:=(0:Nat)) (m:=k0) rfl rfl p0) rfl p1) rfl p2) rfl p3),zm ⟨zaq (show (c:Int)≠(t:Int) by omega),(sbq rfl).trans hq1,trivial⟩ trivial,
  ⟨zi c0 p0 rfl (fun ρ=>rfl) (fun ρ=>yF thA),
   zi c1 p1 rfl (fun ρ=>jg rfl (thG rfl rfl rfl (vsb (sbq rfl)) rfl rfl rfl rfl rfl rfl rfl rfl rfl rfl rfl rfl rfl rfl rfl rfl rfl rfl rfl rfl rfl rfl rfl rfl rfl rfl)) (fun ρ=>rfl),
   zi c2 p2 rfl (fun ρ=>rfl) (fun ρ=>rfl),
   zi c3 p3 rfl (fun ρ=>rfl) (fun ρ=>yF thA),
   trivial⟩,
  zn trivial,fun ρ=>rfl,fun ρ=>rfl⟩⟩
def znT (f:Nat->Int) (t:Nat) (c:Nat) (ks:Nat->Int):Nat->Int:=fun i=>match i / 100 with
 | 0=>(t:Int)
 | 1=>ym (za f t) (zp f t) (i % 100)
 | 3=>(c:Int)
 | 4=>ym (za (yh f t) t) (zp (yh f t) t) (i % 100)
 | 90=>ks (i % 100)
 | _=>0
def zka (f:Nat->Int) (t:Nat) (c:Nat):Nat->Nat->Int:=fun q=>match q with
 | 0=>f
 | 1=>f
 | 2=>yh f t
 | 3=>yh f t
 | 4=>yh f t
 | 5=>zbc (yh f t) t
 | _=>f
theorem zlM:yP cx0 cP [⟨13,[(.si .i64 (.v 1))],1,(.tup [(tD 100),(.i .i64 0)]),(.v 9000)⟩,
 ⟨59,[(.si .i64 (.v 1)),(tA 100 (.i .i64 1) (sv 101) (sv 102) (tv 103) (sv 104) (sv 105) (.i .i64 0) (.i .i64 0) (.b false) (.b false) (sv 110) (sv 111) (sv 112) (sv 113))],2,(.i .i64 0),(.v 9001)⟩,
 ⟨95,[],3,(.si .i64 (.v 300)),(.v 9002)⟩,
 ⟨13,[(.si .i64 (.v 1))],4,(.tup [(tD 400),(.i .i64 0)]),(.v 9003)⟩,
 ⟨66,[(.si .i64 (.v 1))],5,(.i .i64 0),(.v 9004)⟩]
 [] 28 [.si .i64 (.v 1)] ⟨[((.cmp .neq (.v 300) (.v 1)),true),((.cmp .eql (.v 403) (.lit 1)),false)],[]⟩ (.tup []) 5 s5=0:=by decide +kernel
theorem wake1_p (s:SS TT f Q P c) (ht:TT t) (hq:(za f t).q=false) (hc:t≠c)  : zK PP cP 28 [.int .i64 t] (f) (.tuple #[]) (zbc (yh f t) t):=by
 have h:=s.q
 have hv:=zh (h.thr t ht)
 have htl:=zd.lo t ht
 have hth:=zd.hi t ht
 have hw:=zaE hv
 have w:=zcV zd h ht
 have hc1:yh f t 1=(c:Int):=by rw[w.lo 1 (by omega)];exact s.cur
 have hq1:(za (yh f t) t).q=false:=by rw[w.me];exact hq
 obtain⟨k0,p0,c0⟩:=zJ (jB ht (h.thr t ht))
 obtain⟨k1,p1,c1⟩:=zJ (zaC (f:=f) ht hw)
 obtain⟨k2,p2,c2⟩:=zdQ (f:=yh f t) s.ct hc1
 obtain⟨k3,p3,c3⟩:=zJ (jB (f:=yh f t) ht (zd5 zd h ht |>.thr t ht))
 obtain⟨k4,p4,c4⟩:=push_cp (zd5 zd h ht) ht hq1
 exact⟨(((((0+k0)+k1)+k2)+k3)+k4),by omega,zH hC0 (by decide) zlM rfl (znT f t c (ksL [k0,k1,k2,k3,k4])) (zka f t c) fun st=>⟨(zc (k:=((((0+k0)+k1)+k2)+k3)) (m:=k4) (zc (k:=(((0+k0)+k1)+k2)) (m:=k3) (zc (k:=((0+k0)+k1)) (m:=k2) (zc (k:=(0+k0)) (m:=k1) (zc (k:=(0:Nat)) (m:=k0) rfl rfl p0) rfl p1) rfl p2) rfl p3) rfl p4),zm ⟨zaq (show (c:Int)≠(t:Int) by omega),(sbq rfl).trans hq1,trivial⟩ trivial,
  ⟨zi c0 p0 rfl (fun ρ=>rfl) (fun ρ=>yF thA),
   zi c1 p1 rfl (fun ρ=>jg rfl (thG rfl rfl rfl (vsb (sbq rfl)) rfl rfl rfl rfl rfl rfl rfl rfl rfl rfl rfl rfl rfl rfl rfl rfl rfl rfl rfl rfl rfl rfl rfl rfl rfl rfl)) (fun ρ=>rfl),
   zi c2 p2 rfl (fun ρ=>rfl) (fun ρ=>rfl),
   zi c3 p3 rfl (fun ρ=>rfl) (fun ρ=>yF thA),
   zi c4 p4 rfl (fun ρ=>rfl) (fun ρ=>rfl),
   trivial⟩,
  zn trivial,fun ρ=>rfl,fun ρ=>rfl⟩⟩
def znR (f:Nat->Int) (t:Nat) (c:Nat) (ks:Nat->Int):Nat->Int:=fun i=>match i / 100 with
 | 0=>(t:Int)
 | 1=>ym (za f t) (zp f t) (i % 100)
 | 3=>(c:Int)
 | 90=>ks (i % 100)
 | _=>0
def zj8 (f:Nat->Int) (t:Nat) (c:Nat):Nat->Nat->Int:=fun q=>match q with
 | 0=>f
 | 1=>f
 | 2=>yh f t
 | 3=>yh f t
 | _=>f
theorem zlK:yP cx0 cP [⟨13,[(.si .i64 (.v 1))],1,(.tup [(tD 100),(.i .i64 0)]),(.v 9000)⟩,
 ⟨59,[(.si .i64 (.v 1)),(tA 100 (.i .i64 1) (sv 101) (sv 102) (tv 103) (sv 104) (sv 105) (.i .i64 0) (.i .i64 0) (.b false) (.b false) (sv 110) (sv 111) (sv 112) (sv 113))],2,(.i .i64 0),(.v 9001)⟩,
 ⟨95,[],3,(.si .i64 (.v 300)),(.v 9002)⟩]
 [] 28 [.si .i64 (.v 1)] ⟨[((.cmp .neq (.v 300) (.v 1)),false)],[]⟩ (.tup []) 3 s3=0:=by decide +kernel
theorem wake2_p (s:SS TT f Q P c) (ht:TT t) (hc:t=c)  : zK PP cP 28 [.int .i64 t] (f) (.tuple #[]) (yh f t):=by
 have h:=s.q
 have hv:=zh (h.thr t ht)
 have htl:=zd.lo t ht
 have hth:=zd.hi t ht
 have hw:=zaE hv
 have w:=zcV zd h ht
 have hc1:yh f t 1=(c:Int):=by rw[w.lo 1 (by omega)];exact s.cur
 obtain⟨k0,p0,c0⟩:=zJ (jB ht (h.thr t ht))
 obtain⟨k1,p1,c1⟩:=zJ (zaC (f:=f) ht hw)
 obtain⟨k2,p2,c2⟩:=zdQ (f:=yh f t) s.ct hc1
 exact⟨(((0+k0)+k1)+k2),by omega,zH hC0 (by decide) zlK rfl (znR f t c (ksL [k0,k1,k2])) (zj8 f t c) fun st=>⟨(zc (k:=((0+k0)+k1)) (m:=k2) (zc (k:=(0+k0)) (m:=k1) (zc (k:=(0:Nat)) (m:=k0) rfl rfl p0) rfl p1) rfl p2),zm ⟨yD (show (c:Int)=(t:Int) by omega),trivial⟩ trivial,
  ⟨zi c0 p0 rfl (fun ρ=>rfl) (fun ρ=>yF thA),
   zi c1 p1 rfl (fun ρ=>jg rfl (thG rfl rfl rfl (vsb (sbq rfl)) rfl rfl rfl rfl rfl rfl rfl rfl rfl rfl rfl rfl rfl rfl rfl rfl rfl rfl rfl rfl rfl rfl rfl rfl rfl rfl)) (fun ρ=>rfl),
   zi c2 p2 rfl (fun ρ=>rfl) (fun ρ=>rfl),
   trivial⟩,
  zn trivial,fun ρ=>rfl,fun ρ=>rfl⟩⟩
theorem zo4 (s:SS TT f Q P c) (ht:TT t):zK PP cP 28 [.int .i64 t] f (.tuple #[]) (zdk f t):=by
 unfold zdk
 have hcur:f 1=(t:Int) ↔ t=c:=by rw[s.cur];omega
 by_cases hc:t=c
 ·rw[if_pos (.inl (hcur.2 hc))];exact wake2_p s ht hc
 ·cases hq:(za f t).q with
  | true=>rw[if_pos (.inr rfl)];exact wake0_p s ht hq hc
  | false => rw [if_neg (by rintro (h | h); · exact hc (hcur.1 h)
                            ·cases h)];exact wake1_p s ht hq hc
def zkC (f:Nat->Int) (c:Nat) (ks:Nat->Int):Nat->Int:=fun i=>match i / 100 with
 | 1=>0
 | 2=>(c:Int)
 | 90=>ks (i % 100)
 | _=>0
def zhB (f:Nat->Int) (c:Nat):Nat->Nat->Int:=fun q=>match q with
 | 0=>f
 | 1=>f
 | _=>f
theorem ziR:yP cx0 cP [⟨70,[],1,(.si .i64 (.v 100)),(.v 9000)⟩]
 [] 33 [] ⟨[((.cmp .eql (.v 100) (.lit 0)),true)],[]⟩ (.tup []) 1 s1=0:=by decide +kernel
theorem zqu {Q:Nat->List Nat} {P:Nat->TV} {c:Nat} {f:Nat->Int} (s:SS TT f Q P c) (hh:zK PP cP 70 [] f (.int .i64 (0:Nat)) f)  : zK PP cP 33 [] (f) (.tuple #[]) (f):=by
 obtain⟨k0,p0,c0⟩:=hh
 exact⟨(0+k0),by omega,zH hC0 (by decide) ziR rfl (zkC f c (ksL [k0])) (zhB f c) fun st=>⟨(zc (k:=(0:Nat)) (m:=k0) rfl rfl p0),zm ⟨zae rfl,trivial⟩ trivial,
  ⟨zi c0 p0 rfl (fun ρ=>rfl) (fun ρ=>rfl),
   trivial⟩,
  zn trivial,fun ρ=>rfl,fun ρ=>rfl⟩⟩
def zkA (f:Nat->Int) (c h:Nat) (ks:Nat->Int):Nat->Int:=fun i=>match i / 100 with
 | 1=>(h:Int)
 | 2=>(c:Int)
 | 3=>ym (za f h) (zp f h) (i % 100)
 | 4=>ym (za f c) (zp f c) (i % 100)
 | 90=>ks (i % 100)
 | _=>0
def zhz (f:Nat->Int) (c h:Nat):Nat->Nat->Int:=fun q=>match q with
 | 0=>f
 | 1=>f
 | 2=>f
 | 3=>f
 | 4=>f
 | _=>f
theorem ziP:yP cx0 cP [⟨70,[],1,(.si .i64 (.v 100)),(.v 9000)⟩,
 ⟨95,[],2,(.si .i64 (.v 200)),(.v 9001)⟩,
 ⟨13,[(.si .i64 (.v 100))],3,(.tup [(tD 300),(.i .i64 0)]),(.v 9002)⟩,
 ⟨13,[(.si .i64 (.v 200))],4,(.tup [(tD 400),(.i .i64 0)]),(.v 9003)⟩]
 [] 33 [] ⟨[((.cmp .eql (.v 100) (.lit 0)),false),((.cmp .neq (.v 200) (.lit 0)),true),((.cmp .leq (.v 301) (.v 401)),true)],[]⟩ (.tup []) 4 s4=0:=by decide +kernel
theorem zqs {Q:Nat->List Nat} {P:Nat->TV} {c:Nat} {f:Nat->Int} (s:SS TT f Q P c) {h:Nat} (hT:TT h) (hq:(za f h).q=true) (hh:zK PP cP 70 [] f (.int .i64 (h:Nat)) f) (hcT:TT c) (hle:(za f h).pr<=(za f c).pr)  : zK PP cP 33 [] (f) (.tuple #[]) (f):=by
 have hq0:=s.q
 have hhl:=zd.lo h hT
 have hcl:=zd.lo c hcT
 obtain⟨k0,p0,c0⟩:=hh
 obtain⟨k1,p1,c1⟩:=zdQ s.ct s.cur
 obtain⟨k2,p2,c2⟩:=zJ (jB hT (hq0.thr h hT))
 obtain⟨k3,p3,c3⟩:=zJ (jB hcT (hq0.thr c hcT))
 exact⟨((((0+k0)+k1)+k2)+k3),by omega,zH hC0 (by decide) ziP rfl (zkA f c h (ksL [k0,k1,k2,k3])) (zhz f c h) fun st=>⟨(zc (k:=(((0+k0)+k1)+k2)) (m:=k3) (zc (k:=((0+k0)+k1)) (m:=k2) (zc (k:=(0+k0)) (m:=k1) (zc (k:=(0:Nat)) (m:=k0) rfl rfl p0) rfl p1) rfl p2) rfl p3),zm ⟨yB (show (h:Int)≠0 by omega),zaq (show (c:Int)≠0 by omega),za6 hle,trivial⟩ trivial,
  ⟨zi c0 p0 rfl (fun ρ=>rfl) (fun ρ=>rfl),
   zi c1 p1 rfl (fun ρ=>rfl) (fun ρ=>rfl),
   zi c2 p2 rfl (fun ρ=>rfl) (fun ρ=>yF thA),
   zi c3 p3 rfl (fun ρ=>rfl) (fun ρ=>yF thA),
   trivial⟩,
  zn trivial,fun ρ=>rfl,fun ρ=>rfl⟩⟩
def zky (f:Nat->Int) (c h:Nat) (ks:Nat->Int):Nat->Int:=fun i=>match i / 100 with
 | 1=>(h:Int)
 | 2=>(c:Int)
 | 3=>ym (za f h) (zp f h) (i % 100)
 | 4=>ym (za f c) (zp f c) (i % 100)
 | 90=>ks (i % 100)
 | _=>0
def zhx (f:Nat->Int) (c h:Nat):Nat->Nat->Int:=fun q=>match q with
 | 0=>f
 | 1=>f
 | 2=>f
 | 3=>f
 | 4=>f
 | 5=>z4 f h
 | 6=>z6 (z4 f h) c
 | 7=>upd (z6 (z4 f h) c) 1 h
 | _=>f
theorem ziN:yP cx0 cP [⟨70,[],1,(.si .i64 (.v 100)),(.v 9000)⟩,
 ⟨95,[],2,(.si .i64 (.v 200)),(.v 9001)⟩,
 ⟨13,[(.si .i64 (.v 100))],3,(.tup [(tD 300),(.i .i64 0)]),(.v 9002)⟩,
 ⟨13,[(.si .i64 (.v 200))],4,(.tup [(tD 400),(.i .i64 0)]),(.v 9003)⟩,
 ⟨71,[(.si .i64 (.v 100))],5,(.i .i64 0),(.v 9004)⟩,
 ⟨72,[(.si .i64 (.v 200))],6,(.i .i64 0),(.v 9005)⟩,
 ⟨110,[(.si .i64 (.v 100))],7,(.i .i64 0),(.v 9006)⟩]
 [] 33 [] ⟨[((.cmp .eql (.v 100) (.lit 0)),false),((.cmp .neq (.v 200) (.lit 0)),true),((.cmp .leq (.v 301) (.v 401)),false)],[]⟩ (.tup []) 7 s7=0:=by decide +kernel
theorem zqq {Q:Nat->List Nat} {P:Nat->TV} {c:Nat} {f:Nat->Int} (s:SS TT f Q P c) {h:Nat} (hT:TT h) (hq:(za f h).q=true) (hh:zK PP cP 70 [] f (.int .i64 (h:Nat)) f) (hcT:TT c) (hgt:¬ (za f h).pr<=(za f c).pr)  : zK PP cP 33 [] (f) (.tuple #[]) (upd (z6 (z4 f h) c) 1 h):=by
 have hq0:=s.q
 have hhl:=zd.lo h hT
 have hcl:=zd.lo c hcT
 have hqc:(za (z4 f h) c).q=false:=by rw[((zdP zd s hT hq).2.1 c hcT).2,s.nc hcT];simp
 obtain⟨k0,p0,c0⟩:=hh
 obtain⟨k1,p1,c1⟩:=zdQ s.ct s.cur
 obtain⟨k2,p2,c2⟩:=zJ (jB hT (hq0.thr h hT))
 obtain⟨k3,p3,c3⟩:=zJ (jB hcT (hq0.thr c hcT))
 obtain⟨k4,p4,c4⟩:=zlk hq0 hT hq
 obtain⟨k5,p5,c5⟩:=zuq (zif zd s hT hq) hcT hqc
 obtain⟨k6,p6,c6⟩:=zkE (.inr hT) (z6 (z4 f h) c)
 exact⟨(((((((0+k0)+k1)+k2)+k3)+k4)+k5)+k6),by omega,zH hC0 (by decide) ziN rfl (zky f c h (ksL [k0,k1,k2,k3,k4,k5,k6])) (zhx f c h) fun st=>⟨(zc (k:=((((((0+k0)+k1)+k2)+k3)+k4)+k5)) (m:=k6) (zc (k:=(((((0+k0)+k1)+k2)+k3)+k4)) (m:=k5) (zc (k:=((((0+k0)+k1)+k2)+k3)) (m:=k4) (zc (k:=(((0+k0)+k1)+k2)) (m:=k3) (zc (k:=((0+k0)+k1)) (m:=k2) (zc (k:=(0+k0)) (m:=k1) (zc (k:=(0:Nat)) (m:=k0) rfl rfl p0) rfl p1) rfl p2) rfl p3) rfl p4) rfl p5) rfl p6),zm ⟨yB (show (h:Int)≠0 by omega),zaq (show (c:Int)≠0 by omega),f_len (show (za f c).pr<(za f h).pr by omega),trivial⟩ trivial,
  ⟨zi c0 p0 rfl (fun ρ=>rfl) (fun ρ=>rfl),
   zi c1 p1 rfl (fun ρ=>rfl) (fun ρ=>rfl),
   zi c2 p2 rfl (fun ρ=>rfl) (fun ρ=>yF thA),
   zi c3 p3 rfl (fun ρ=>rfl) (fun ρ=>yF thA),
   zi c4 p4 rfl (fun ρ=>rfl) (fun ρ=>rfl),
   zi c5 p5 rfl (fun ρ=>rfl) (fun ρ=>rfl),
   zi c6 p6 rfl (fun ρ=>rfl) (fun ρ=>rfl),
   trivial⟩,
  zn trivial,fun ρ=>rfl,fun ρ=>rfl⟩⟩
def zkw (f:Nat->Int) (h:Nat) (ks:Nat->Int):Nat->Int:=fun i=>match i / 100 with
 | 1=>(h:Int)
 | 2=>0
 | 90=>ks (i % 100)
 | _=>0
def zhv (f:Nat->Int) (h:Nat):Nat->Nat->Int:=fun q=>match q with
 | 0=>f
 | 1=>f
 | 2=>f
 | 3=>z4 f h
 | 4=>upd (z4 f h) 1 h
 | _=>f
theorem ziL:yP cx0 cP [⟨70,[],1,(.si .i64 (.v 100)),(.v 9000)⟩,
 ⟨95,[],2,(.si .i64 (.v 200)),(.v 9001)⟩,
 ⟨71,[(.si .i64 (.v 100))],3,(.i .i64 0),(.v 9002)⟩,
 ⟨110,[(.si .i64 (.v 100))],4,(.i .i64 0),(.v 9003)⟩]
 [] 33 [] ⟨[((.cmp .eql (.v 100) (.lit 0)),false),((.cmp .neq (.v 200) (.lit 0)),false)],[]⟩ (.tup []) 4 s4=0:=by decide +kernel
theorem zqo {Q:Nat->List Nat} {P:Nat->TV} {f:Nat->Int} (s:SS TT f Q P 0) {h:Nat} (hT:TT h) (hq:(za f h).q=true) (hh:zK PP cP 70 [] f (.int .i64 (h:Nat)) f)  : zK PP cP 33 [] (f) (.tuple #[]) (upd (z4 f h) 1 h):=by
 have hq0:=s.q
 have hhl:=zd.lo h hT
 obtain⟨k0,p0,c0⟩:=hh
 obtain⟨k1,p1,c1⟩:=zdQ s.ct s.cur
 obtain⟨k2,p2,c2⟩:=zlk hq0 hT hq
 obtain⟨k3,p3,c3⟩:=zkE (.inr hT) (z4 f h)
 exact⟨((((0+k0)+k1)+k2)+k3),by omega,zH hC0 (by decide) ziL rfl (zkw f h (ksL [k0,k1,k2,k3])) (zhv f h) fun st=>⟨(zc (k:=(((0+k0)+k1)+k2)) (m:=k3) (zc (k:=((0+k0)+k1)) (m:=k2) (zc (k:=(0+k0)) (m:=k1) (zc (k:=(0:Nat)) (m:=k0) rfl rfl p0) rfl p1) rfl p2) rfl p3),zm ⟨yB (show (h:Int)≠0 by omega),yD rfl,trivial⟩ trivial,
  ⟨zi c0 p0 rfl (fun ρ=>rfl) (fun ρ=>rfl),
   zi c1 p1 rfl (fun ρ=>rfl) (fun ρ=>rfl),
   zi c2 p2 rfl (fun ρ=>rfl) (fun ρ=>rfl),
   zi c3 p3 rfl (fun ρ=>rfl) (fun ρ=>rfl),
   trivial⟩,
  zn trivial,fun ρ=>rfl,fun ρ=>rfl⟩⟩
theorem zqm (s:SS TT f Q P c) {h:Nat} (hT:TT h) (hq:(za f h).q=true) (hh:zK PP cP 70 [] f (.int .i64 (h:Nat)) f):zK PP cP 33 [] f (.tuple #[]) (zay f h):=by
 unfold zay
 rcases s.ct with rfl | hc
 ·rw[if_pos (show f 1=0 from s.cur)];exact zqo s hT hq hh
 ·have:=zd.lo c hc
  rw[if_neg (show ¬ f 1=0 by rw[s.cur];omega),zfx s]
  by_cases hle:(za f h).pr<=(za f c).pr
  ·rw[if_pos hle];exact zqs s hT hq hh hc hle
  ·rw[if_neg hle];exact zqq s hT hq hh hc hle
end Go.Ev.X
end
