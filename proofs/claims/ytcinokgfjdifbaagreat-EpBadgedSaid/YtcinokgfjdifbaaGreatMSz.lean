import Derived.Test.YtcinokgfjdifbaaGreatMSp
import Derived.Test.YtcinokgfjdifbaaGreatMSr
set_option linter.unusedSimpArgs false
set_option linter.unusedVariables false
set_option maxRecDepth 100000
noncomputable section
namespace Go.Ev.X
open Go Go.Ev Go.Proofs
variable {TT:Nat->Prop} [SubT TT]
variable {f:Nat->Int} {Q:Nat->List Nat} {P:Nat->TV} {c t:Nat}
def zlG (f:Nat->Int) (t:Nat) (c:Nat) (ks:Nat->Int):Nat->Int:=fun i=>match i / 100 with
 | 0=>(t:Int)
 | 1=>ym (za f t) (zp f t) (i % 100)
 | 3=>(c:Int)
 | 4=>ym (za (zZ f t) t) (zp (zZ f t) t) (i % 100)
 | 90=>ks (i % 100)
 | _=>0
def zik (f:Nat->Int) (t:Nat) (c:Nat):Nat->Nat->Int:=fun q=>match q with
 | 0=>f
 | 1=>f
 | 2=>zZ f t
 | 3=>zZ f t
 | 4=>zZ f t
 | 5=>zg (zZ f t) t { za (zZ f t) t with st:=0 }
 | _=>f
theorem zj4:yP cx0 cP [⟨13,[(.si .i64 (.v 1))],1,(.tup [(tD 100),(.i .i64 0)]),(.v 9000)⟩,
 ⟨71,[(.si .i64 (.v 1))],2,(.i .i64 0),(.v 9001)⟩,
 ⟨95,[],3,(.si .i64 (.v 300)),(.v 9002)⟩,
 ⟨13,[(.si .i64 (.v 1))],4,(.tup [(tD 400),(.i .i64 0)]),(.v 9003)⟩,
 ⟨59,[(.si .i64 (.v 1)),(tA 400 (.i .i64 0) (sv 401) (sv 402) (tv 403) (sv 404) (sv 405) (sv 406) (sv 407) (tv 408) (tv 409) (sv 410) (sv 411) (sv 412) (sv 413))],5,(.i .i64 0),(.v 9004)⟩]
 [] 56 [.si .i64 (.v 1),.i .i64 0] ⟨[((.cmp .eql (.v 100) (.lit 1)),true),((.cmp .eql (.v 103) (.lit 1)),true),((.cmp .eql (.v 300) (.v 1)),false)],[]⟩ (.tup []) 5 s5=0:=by decide +kernel
theorem zrM (s:SS TT f Q P c) (ht:TT t) (hs:(za f t).st=1) (hq:(za f t).q=true) (hc:t≠c)  : zJ PP cP 56 [.int .i64 t,.int .i64 0] (f) (.tuple #[]) (zg (zZ f t) t { za (zZ f t) t with st:=0 }):=by
 have h:=s.q
 have hv:=zh (h.thr t ht)
 have htl:=zd.lo t ht
 have hth:=zd.hi t ht
 have q1:=zhS zd s ht hq
 have dc:=(zdD zd s ht hq).2.2
 have qg:=q1
 have hv1:=zah (zh (qg.thr t ht)) (x:=0) (by omega)
 obtain⟨k0,p0,c0⟩:=zH (jy ht (h.thr t ht))
 obtain⟨k1,p1,c1⟩:=zkU h ht hq
 obtain⟨k2,p2,c2⟩:=zdE s.ct dc
 obtain⟨k3,p3,c3⟩:=zH (jy (f:=zZ f t) ht (qg.thr t ht))
 obtain⟨k4,p4,c4⟩:=zH (zaA (f:=zZ f t) ht hv1)
 exact⟨(((((0+k0)+k1)+k2)+k3)+k4),by omega,zD hC0 (by decide) zj4 rfl (zlG f t c (ksL [k0,k1,k2,k3,k4])) (zik f t c) fun st=>⟨(zc (k:=((((0+k0)+k1)+k2)+k3)) (m:=k4) (zc (k:=(((0+k0)+k1)+k2)) (m:=k3) (zc (k:=((0+k0)+k1)) (m:=k2) (zc (k:=(0+k0)) (m:=k1) (zc (k:=(0:Nat)) (m:=k0) rfl rfl p0) rfl p1) rfl p2) rfl p3) rfl p4),zm ⟨zal hs,(sbq rfl).trans hq,yM (show (c:Int)≠(t:Int) by omega),trivial⟩ trivial,
  ⟨zi c0 p0 rfl (fun ρ=>rfl) (fun ρ=>yD thA),
   zi c1 p1 rfl (fun ρ=>rfl) (fun ρ=>rfl),
   zi c2 p2 rfl (fun ρ=>rfl) (fun ρ=>rfl),
   zi c3 p3 rfl (fun ρ=>rfl) (fun ρ=>yD thA),
   zi c4 p4 rfl (fun ρ=>yY rfl thA) (fun ρ=>rfl),
   trivial⟩,
  zn trivial,fun ρ=>rfl,fun ρ=>rfl⟩⟩
def zlE (f:Nat->Int) (t:Nat) (c:Nat) (ks:Nat->Int):Nat->Int:=fun i=>match i / 100 with
 | 0=>(t:Int)
 | 1=>ym (za f t) (zp f t) (i % 100)
 | 2=>(c:Int)
 | 4=>ym (za (upd (f) 1 0) t) (zp (upd (f) 1 0) t) (i % 100)
 | 90=>ks (i % 100)
 | _=>0
def zii (f:Nat->Int) (t:Nat) (c:Nat):Nat->Nat->Int:=fun q=>match q with
 | 0=>f
 | 1=>f
 | 2=>f
 | 3=>upd (f) 1 0
 | 4=>upd (f) 1 0
 | 5=>zg (upd (f) 1 0) t { za (upd (f) 1 0) t with st:=0 }
 | _=>f
theorem zj2:yP cx0 cP [⟨13,[(.si .i64 (.v 1))],1,(.tup [(tD 100),(.i .i64 0)]),(.v 9000)⟩,
 ⟨95,[],2,(.si .i64 (.v 200)),(.v 9001)⟩,
 ⟨110,[(.i .i64 0)],3,(.i .i64 0),(.v 9002)⟩,
 ⟨13,[(.si .i64 (.v 1))],4,(.tup [(tD 400),(.i .i64 0)]),(.v 9003)⟩,
 ⟨59,[(.si .i64 (.v 1)),(tA 400 (.i .i64 0) (sv 401) (sv 402) (tv 403) (sv 404) (sv 405) (sv 406) (sv 407) (tv 408) (tv 409) (sv 410) (sv 411) (sv 412) (sv 413))],5,(.i .i64 0),(.v 9004)⟩]
 [] 56 [.si .i64 (.v 1),.i .i64 0] ⟨[((.cmp .eql (.v 100) (.lit 1)),true),((.cmp .eql (.v 103) (.lit 1)),false),((.cmp .eql (.v 200) (.v 1)),true)],[]⟩ (.tup []) 5 s5=0:=by decide +kernel
theorem zrK (s:SS TT f Q P c) (ht:TT t) (hs:(za f t).st=1) (hq:(za f t).q=false) (hc:t=c)  : zJ PP cP 56 [.int .i64 t,.int .i64 0] (f) (.tuple #[]) (zg (upd (f) 1 0) t { za (upd (f) 1 0) t with st:=0 }):=by
 have h:=s.q
 have hv:=zh (h.thr t ht)
 have htl:=zd.lo t ht
 have hth:=zd.hi t ht
 have qg:=zek zd h 0
 have hv1:=zah (zh (qg.thr t ht)) (x:=0) (by omega)
 obtain⟨k0,p0,c0⟩:=zH (jy ht (h.thr t ht))
 obtain⟨k1,p1,c1⟩:=zdE s.ct s.cur
 obtain⟨k2,p2,c2⟩:=zkg (TT:=TT) (t:=0) (.inl rfl) (f)
 obtain⟨k3,p3,c3⟩:=zH (jy (f:=upd (f) 1 0) ht (qg.thr t ht))
 obtain⟨k4,p4,c4⟩:=zH (zaA (f:=upd (f) 1 0) ht hv1)
 exact⟨(((((0+k0)+k1)+k2)+k3)+k4),by omega,zD hC0 (by decide) zj2 rfl (zlE f t c (ksL [k0,k1,k2,k3,k4])) (zii f t c) fun st=>⟨(zc (k:=((((0+k0)+k1)+k2)+k3)) (m:=k4) (zc (k:=(((0+k0)+k1)+k2)) (m:=k3) (zc (k:=((0+k0)+k1)) (m:=k2) (zc (k:=(0+k0)) (m:=k1) (zc (k:=(0:Nat)) (m:=k0) rfl rfl p0) rfl p1) rfl p2) rfl p3) rfl p4),zm ⟨zal hs,(sbq rfl).trans hq,zal (show (c:Int)=(t:Int) by omega),trivial⟩ trivial,
  ⟨zi c0 p0 rfl (fun ρ=>rfl) (fun ρ=>yD thA),
   zi c1 p1 rfl (fun ρ=>rfl) (fun ρ=>rfl),
   zi c2 p2 rfl (fun ρ=>rfl) (fun ρ=>rfl),
   zi c3 p3 rfl (fun ρ=>rfl) (fun ρ=>yD thA),
   zi c4 p4 rfl (fun ρ=>yY rfl thA) (fun ρ=>rfl),
   trivial⟩,
  zn trivial,fun ρ=>rfl,fun ρ=>rfl⟩⟩
def zlC (f:Nat->Int) (t:Nat) (c:Nat) (ks:Nat->Int):Nat->Int:=fun i=>match i / 100 with
 | 0=>(t:Int)
 | 1=>ym (za f t) (zp f t) (i % 100)
 | 2=>(c:Int)
 | 3=>ym (za (f) t) (zp (f) t) (i % 100)
 | 90=>ks (i % 100)
 | _=>0
def zig (f:Nat->Int) (t:Nat) (c:Nat):Nat->Nat->Int:=fun q=>match q with
 | 0=>f
 | 1=>f
 | 2=>f
 | 3=>f
 | 4=>zg (f) t { za (f) t with st:=0 }
 | _=>f
theorem zj0:yP cx0 cP [⟨13,[(.si .i64 (.v 1))],1,(.tup [(tD 100),(.i .i64 0)]),(.v 9000)⟩,
 ⟨95,[],2,(.si .i64 (.v 200)),(.v 9001)⟩,
 ⟨13,[(.si .i64 (.v 1))],3,(.tup [(tD 300),(.i .i64 0)]),(.v 9002)⟩,
 ⟨59,[(.si .i64 (.v 1)),(tA 300 (.i .i64 0) (sv 301) (sv 302) (tv 303) (sv 304) (sv 305) (sv 306) (sv 307) (tv 308) (tv 309) (sv 310) (sv 311) (sv 312) (sv 313))],4,(.i .i64 0),(.v 9003)⟩]
 [] 56 [.si .i64 (.v 1),.i .i64 0] ⟨[((.cmp .eql (.v 100) (.lit 1)),true),((.cmp .eql (.v 103) (.lit 1)),false),((.cmp .eql (.v 200) (.v 1)),false)],[]⟩ (.tup []) 4 s4=0:=by decide +kernel
theorem zrI (s:SS TT f Q P c) (ht:TT t) (hs:(za f t).st=1) (hq:(za f t).q=false) (hc:t≠c)  : zJ PP cP 56 [.int .i64 t,.int .i64 0] (f) (.tuple #[]) (zg (f) t { za (f) t with st:=0 }):=by
 have h:=s.q
 have hv:=zh (h.thr t ht)
 have htl:=zd.lo t ht
 have hth:=zd.hi t ht
 have qg:=h
 have hv1:=zah (zh (qg.thr t ht)) (x:=0) (by omega)
 obtain⟨k0,p0,c0⟩:=zH (jy ht (h.thr t ht))
 obtain⟨k1,p1,c1⟩:=zdE s.ct s.cur
 obtain⟨k2,p2,c2⟩:=zH (jy (f:=f) ht (qg.thr t ht))
 obtain⟨k3,p3,c3⟩:=zH (zaA (f:=f) ht hv1)
 exact⟨((((0+k0)+k1)+k2)+k3),by omega,zD hC0 (by decide) zj0 rfl (zlC f t c (ksL [k0,k1,k2,k3])) (zig f t c) fun st=>⟨(zc (k:=(((0+k0)+k1)+k2)) (m:=k3) (zc (k:=((0+k0)+k1)) (m:=k2) (zc (k:=(0+k0)) (m:=k1) (zc (k:=(0:Nat)) (m:=k0) rfl rfl p0) rfl p1) rfl p2) rfl p3),zm ⟨zal hs,(sbq rfl).trans hq,yM (show (c:Int)≠(t:Int) by omega),trivial⟩ trivial,
  ⟨zi c0 p0 rfl (fun ρ=>rfl) (fun ρ=>yD thA),
   zi c1 p1 rfl (fun ρ=>rfl) (fun ρ=>rfl),
   zi c2 p2 rfl (fun ρ=>rfl) (fun ρ=>yD thA),
   zi c3 p3 rfl (fun ρ=>yY rfl thA) (fun ρ=>rfl),
   trivial⟩,
  zn trivial,fun ρ=>rfl,fun ρ=>rfl⟩⟩
def zlA (f:Nat->Int) (t:Nat) (c:Nat) (ks:Nat->Int):Nat->Int:=fun i=>match i / 100 with
 | 0=>(t:Int)
 | 1=>ym (za f t) (zp f t) (i % 100)
 | 2=>(c:Int)
 | 4=>ym (za (upd (f) 1 0) t) (zp (upd (f) 1 0) t) (i % 100)
 | 90=>ks (i % 100)
 | _=>0
def zie (f:Nat->Int) (t:Nat) (c:Nat):Nat->Nat->Int:=fun q=>match q with
 | 0=>f
 | 1=>f
 | 2=>f
 | 3=>upd (f) 1 0
 | 4=>upd (f) 1 0
 | 5=>zg (upd (f) 1 0) t { za (upd (f) 1 0) t with st:=0 }
 | _=>f
theorem zjY:yP cx0 cP [⟨13,[(.si .i64 (.v 1))],1,(.tup [(tD 100),(.i .i64 0)]),(.v 9000)⟩,
 ⟨95,[],2,(.si .i64 (.v 200)),(.v 9001)⟩,
 ⟨110,[(.i .i64 0)],3,(.i .i64 0),(.v 9002)⟩,
 ⟨13,[(.si .i64 (.v 1))],4,(.tup [(tD 400),(.i .i64 0)]),(.v 9003)⟩,
 ⟨59,[(.si .i64 (.v 1)),(tA 400 (.i .i64 0) (sv 401) (sv 402) (tv 403) (sv 404) (sv 405) (sv 406) (sv 407) (tv 408) (tv 409) (sv 410) (sv 411) (sv 412) (sv 413))],5,(.i .i64 0),(.v 9004)⟩]
 [] 56 [.si .i64 (.v 1),.i .i64 0] ⟨[((.cmp .eql (.v 100) (.lit 1)),false),((.cmp .eql (.v 200) (.v 1)),true)],[]⟩ (.tup []) 5 s5=0:=by decide +kernel
theorem zrG (s:SS TT f Q P c) (ht:TT t) (hs:(za f t).st≠1) (hq:(za f t).q=false) (hc:t=c)  : zJ PP cP 56 [.int .i64 t,.int .i64 0] (f) (.tuple #[]) (zg (upd (f) 1 0) t { za (upd (f) 1 0) t with st:=0 }):=by
 have h:=s.q
 have hv:=zh (h.thr t ht)
 have htl:=zd.lo t ht
 have hth:=zd.hi t ht
 have qg:=zek zd h 0
 have hv1:=zah (zh (qg.thr t ht)) (x:=0) (by omega)
 obtain⟨k0,p0,c0⟩:=zH (jy ht (h.thr t ht))
 obtain⟨k1,p1,c1⟩:=zdE s.ct s.cur
 obtain⟨k2,p2,c2⟩:=zkg (TT:=TT) (t:=0) (.inl rfl) (f)
 obtain⟨k3,p3,c3⟩:=zH (jy (f:=upd (f) 1 0) ht (qg.thr t ht))
 obtain⟨k4,p4,c4⟩:=zH (zaA (f:=upd (f) 1 0) ht hv1)
 exact⟨(((((0+k0)+k1)+k2)+k3)+k4),by omega,zD hC0 (by decide) zjY rfl (zlA f t c (ksL [k0,k1,k2,k3,k4])) (zie f t c) fun st=>⟨(zc (k:=((((0+k0)+k1)+k2)+k3)) (m:=k4) (zc (k:=(((0+k0)+k1)+k2)) (m:=k3) (zc (k:=((0+k0)+k1)) (m:=k2) (zc (k:=(0+k0)) (m:=k1) (zc (k:=(0:Nat)) (m:=k0) rfl rfl p0) rfl p1) rfl p2) rfl p3) rfl p4),zm ⟨yM hs,zal (show (c:Int)=(t:Int) by omega),trivial⟩ trivial,
  ⟨zi c0 p0 rfl (fun ρ=>rfl) (fun ρ=>yD thA),
   zi c1 p1 rfl (fun ρ=>rfl) (fun ρ=>rfl),
   zi c2 p2 rfl (fun ρ=>rfl) (fun ρ=>rfl),
   zi c3 p3 rfl (fun ρ=>rfl) (fun ρ=>yD thA),
   zi c4 p4 rfl (fun ρ=>yY rfl thA) (fun ρ=>rfl),
   trivial⟩,
  zn trivial,fun ρ=>rfl,fun ρ=>rfl⟩⟩
def zly (f:Nat->Int) (t:Nat) (c:Nat) (ks:Nat->Int):Nat->Int:=fun i=>match i / 100 with
 | 0=>(t:Int)
 | 1=>ym (za f t) (zp f t) (i % 100)
 | 2=>(c:Int)
 | 3=>ym (za (f) t) (zp (f) t) (i % 100)
 | 90=>ks (i % 100)
 | _=>0
def zic (f:Nat->Int) (t:Nat) (c:Nat):Nat->Nat->Int:=fun q=>match q with
 | 0=>f
 | 1=>f
 | 2=>f
 | 3=>f
 | 4=>zg (f) t { za (f) t with st:=0 }
 | _=>f
theorem zjW:yP cx0 cP [⟨13,[(.si .i64 (.v 1))],1,(.tup [(tD 100),(.i .i64 0)]),(.v 9000)⟩,
 ⟨95,[],2,(.si .i64 (.v 200)),(.v 9001)⟩,
 ⟨13,[(.si .i64 (.v 1))],3,(.tup [(tD 300),(.i .i64 0)]),(.v 9002)⟩,
 ⟨59,[(.si .i64 (.v 1)),(tA 300 (.i .i64 0) (sv 301) (sv 302) (tv 303) (sv 304) (sv 305) (sv 306) (sv 307) (tv 308) (tv 309) (sv 310) (sv 311) (sv 312) (sv 313))],4,(.i .i64 0),(.v 9003)⟩]
 [] 56 [.si .i64 (.v 1),.i .i64 0] ⟨[((.cmp .eql (.v 100) (.lit 1)),false),((.cmp .eql (.v 200) (.v 1)),false)],[]⟩ (.tup []) 4 s4=0:=by decide +kernel
theorem zrE (s:SS TT f Q P c) (ht:TT t) (hs:(za f t).st≠1) (hq:(za f t).q=false) (hc:t≠c)  : zJ PP cP 56 [.int .i64 t,.int .i64 0] (f) (.tuple #[]) (zg (f) t { za (f) t with st:=0 }):=by
 have h:=s.q
 have hv:=zh (h.thr t ht)
 have htl:=zd.lo t ht
 have hth:=zd.hi t ht
 have qg:=h
 have hv1:=zah (zh (qg.thr t ht)) (x:=0) (by omega)
 obtain⟨k0,p0,c0⟩:=zH (jy ht (h.thr t ht))
 obtain⟨k1,p1,c1⟩:=zdE s.ct s.cur
 obtain⟨k2,p2,c2⟩:=zH (jy (f:=f) ht (qg.thr t ht))
 obtain⟨k3,p3,c3⟩:=zH (zaA (f:=f) ht hv1)
 exact⟨((((0+k0)+k1)+k2)+k3),by omega,zD hC0 (by decide) zjW rfl (zly f t c (ksL [k0,k1,k2,k3])) (zic f t c) fun st=>⟨(zc (k:=(((0+k0)+k1)+k2)) (m:=k3) (zc (k:=((0+k0)+k1)) (m:=k2) (zc (k:=(0+k0)) (m:=k1) (zc (k:=(0:Nat)) (m:=k0) rfl rfl p0) rfl p1) rfl p2) rfl p3),zm ⟨yM hs,yM (show (c:Int)≠(t:Int) by omega),trivial⟩ trivial,
  ⟨zi c0 p0 rfl (fun ρ=>rfl) (fun ρ=>yD thA),
   zi c1 p1 rfl (fun ρ=>rfl) (fun ρ=>rfl),
   zi c2 p2 rfl (fun ρ=>rfl) (fun ρ=>yD thA),
   zi c3 p3 rfl (fun ρ=>yY rfl thA) (fun ρ=>rfl),
   trivial⟩,
  zn trivial,fun ρ=>rfl,fun ρ=>rfl⟩⟩
theorem zrC (s:SS TT f Q P c) (ht:TT t):zJ PP cP 56 [.int .i64 t,.int .i64 0] f (.tuple #[]) (zd9 f t 0):=by
 have zr:=s.run t ht
 unfold zd9 zbY zc8
 cases hq:(za f t).q with
 | true=>
  have hc:t≠c:=fun e=>by
   have:=s.nc (e ▸ ht)
   rw[<- e,hq]at this;cases this
  have hs:(za f t).st=1:=by rw[s.st ht];exact zr.2 (.inr hq)
  rw[if_neg (show ¬ f 1=(t:Int) by rw[s.cur];omega),if_pos rfl]
  exact zrM s ht hs hq hc
 | false=>
  rw[if_neg (show ¬ false=true by simp)]
  by_cases hc:t=c
  ·rw[if_pos (show f 1=(t:Int) by rw[s.cur,hc])]
   by_cases hs:(za f t).st=1
   ·exact zrK s ht hs hq hc
   ·exact zrG s ht hs hq hc
  ·rw[if_neg (show ¬ f 1=(t:Int) by rw[s.cur];omega)]
   by_cases hs:(za f t).st=1
   ·exact zrI s ht hs hq hc
   ·exact zrE s ht hs hq hc
end Go.Ev.X
end
set_option linter.unusedSimpArgs false
set_option linter.unusedVariables false
set_option maxRecDepth 100000
noncomputable section
namespace Go.Ev.X
open Go Go.Ev Go.Proofs
variable {TT:Nat->Prop} [SubT TT]
variable {f:Nat->Int} {Q:Nat->List Nat} {P:Nat->TV} {c t:Nat}
def zlF (f:Nat->Int) (t:Nat) (c:Nat) (ks:Nat->Int):Nat->Int:=fun i=>match i / 100 with
 | 0=>(t:Int)
 | 1=>ym (za f t) (zp f t) (i % 100)
 | 3=>(c:Int)
 | 4=>ym (za (zZ f t) t) (zp (zZ f t) t) (i % 100)
 | 90=>ks (i % 100)
 | _=>0
def zij (f:Nat->Int) (t:Nat) (c:Nat):Nat->Nat->Int:=fun q=>match q with
 | 0=>f
 | 1=>f
 | 2=>zZ f t
 | 3=>zZ f t
 | 4=>zZ f t
 | 5=>zg (zZ f t) t { za (zZ f t) t with st:=0 }
 | _=>f
theorem zj3:yP cx0 cR [⟨62,[(.si .i64 (.v 1))],1,(.tup [(tD 100),(.i .i64 0)]),(.v 9000)⟩,
 ⟨75,[(.si .i64 (.v 1))],2,(.i .i64 0),(.v 9001)⟩,
 ⟨67,[],3,(.si .i64 (.v 300)),(.v 9002)⟩,
 ⟨62,[(.si .i64 (.v 1))],4,(.tup [(tD 400),(.i .i64 0)]),(.v 9003)⟩,
 ⟨83,[(.si .i64 (.v 1)),(tA 400 (.i .i64 0) (sv 401) (sv 402) (tv 403) (sv 404) (sv 405) (sv 406) (sv 407) (tv 408) (tv 409) (sv 410) (sv 411) (sv 412) (sv 413))],5,(.i .i64 0),(.v 9004)⟩]
 [] 57 [.si .i64 (.v 1),.i .i64 0] ⟨[((.cmp .eql (.v 100) (.lit 1)),true),((.cmp .eql (.v 103) (.lit 1)),true),((.cmp .eql (.v 300) (.v 1)),false)],[]⟩ (.tup []) 5 s5=0:=by decide +kernel
theorem zrL (s:SS TT f Q P c) (ht:TT t) (hs:(za f t).st=1) (hq:(za f t).q=true) (hc:t≠c)  : zJ PP cR 57 [.int .i64 t,.int .i64 0] (f) (.tuple #[]) (zg (zZ f t) t { za (zZ f t) t with st:=0 }):=by
 have h:=s.q
 have hv:=zh (h.thr t ht)
 have htl:=zd.lo t ht
 have hth:=zd.hi t ht
 have q1:=zhS zd s ht hq
 have dc:=(zdD zd s ht hq).2.2
 have qg:=q1
 have hv1:=zah (zh (qg.thr t ht)) (x:=0) (by omega)
 obtain⟨k0,p0,c0⟩:=zH (jH ht (h.thr t ht))
 obtain⟨k1,p1,c1⟩:=zkT h ht hq
 obtain⟨k2,p2,c2⟩:=zdf s.ct dc
 obtain⟨k3,p3,c3⟩:=zH (jH (f:=zZ f t) ht (qg.thr t ht))
 obtain⟨k4,p4,c4⟩:=zH (zaz (f:=zZ f t) ht hv1)
 exact⟨(((((0+k0)+k1)+k2)+k3)+k4),by omega,zD hC0 (by decide) zj3 rfl (zlF f t c (ksL [k0,k1,k2,k3,k4])) (zij f t c) fun st=>⟨(zc (k:=((((0+k0)+k1)+k2)+k3)) (m:=k4) (zc (k:=(((0+k0)+k1)+k2)) (m:=k3) (zc (k:=((0+k0)+k1)) (m:=k2) (zc (k:=(0+k0)) (m:=k1) (zc (k:=(0:Nat)) (m:=k0) rfl rfl p0) rfl p1) rfl p2) rfl p3) rfl p4),zm ⟨zal hs,(sbq rfl).trans hq,yM (show (c:Int)≠(t:Int) by omega),trivial⟩ trivial,
  ⟨zi c0 p0 rfl (fun ρ=>rfl) (fun ρ=>yD thA),
   zi c1 p1 rfl (fun ρ=>rfl) (fun ρ=>rfl),
   zi c2 p2 rfl (fun ρ=>rfl) (fun ρ=>rfl),
   zi c3 p3 rfl (fun ρ=>rfl) (fun ρ=>yD thA),
   zi c4 p4 rfl (fun ρ=>yY rfl thA) (fun ρ=>rfl),
   trivial⟩,
  zn trivial,fun ρ=>rfl,fun ρ=>rfl⟩⟩
def zlD (f:Nat->Int) (t:Nat) (c:Nat) (ks:Nat->Int):Nat->Int:=fun i=>match i / 100 with
 | 0=>(t:Int)
 | 1=>ym (za f t) (zp f t) (i % 100)
 | 2=>(c:Int)
 | 4=>ym (za (upd (f) 1 0) t) (zp (upd (f) 1 0) t) (i % 100)
 | 90=>ks (i % 100)
 | _=>0
def zih (f:Nat->Int) (t:Nat) (c:Nat):Nat->Nat->Int:=fun q=>match q with
 | 0=>f
 | 1=>f
 | 2=>f
 | 3=>upd (f) 1 0
 | 4=>upd (f) 1 0
 | 5=>zg (upd (f) 1 0) t { za (upd (f) 1 0) t with st:=0 }
 | _=>f
theorem zj1:yP cx0 cR [⟨62,[(.si .i64 (.v 1))],1,(.tup [(tD 100),(.i .i64 0)]),(.v 9000)⟩,
 ⟨67,[],2,(.si .i64 (.v 200)),(.v 9001)⟩,
 ⟨76,[(.i .i64 0)],3,(.i .i64 0),(.v 9002)⟩,
 ⟨62,[(.si .i64 (.v 1))],4,(.tup [(tD 400),(.i .i64 0)]),(.v 9003)⟩,
 ⟨83,[(.si .i64 (.v 1)),(tA 400 (.i .i64 0) (sv 401) (sv 402) (tv 403) (sv 404) (sv 405) (sv 406) (sv 407) (tv 408) (tv 409) (sv 410) (sv 411) (sv 412) (sv 413))],5,(.i .i64 0),(.v 9004)⟩]
 [] 57 [.si .i64 (.v 1),.i .i64 0] ⟨[((.cmp .eql (.v 100) (.lit 1)),true),((.cmp .eql (.v 103) (.lit 1)),false),((.cmp .eql (.v 200) (.v 1)),true)],[]⟩ (.tup []) 5 s5=0:=by decide +kernel
theorem zrJ (s:SS TT f Q P c) (ht:TT t) (hs:(za f t).st=1) (hq:(za f t).q=false) (hc:t=c)  : zJ PP cR 57 [.int .i64 t,.int .i64 0] (f) (.tuple #[]) (zg (upd (f) 1 0) t { za (upd (f) 1 0) t with st:=0 }):=by
 have h:=s.q
 have hv:=zh (h.thr t ht)
 have htl:=zd.lo t ht
 have hth:=zd.hi t ht
 have qg:=zek zd h 0
 have hv1:=zah (zh (qg.thr t ht)) (x:=0) (by omega)
 obtain⟨k0,p0,c0⟩:=zH (jH ht (h.thr t ht))
 obtain⟨k1,p1,c1⟩:=zdf s.ct s.cur
 obtain⟨k2,p2,c2⟩:=zkf (TT:=TT) (t:=0) (.inl rfl) (f)
 obtain⟨k3,p3,c3⟩:=zH (jH (f:=upd (f) 1 0) ht (qg.thr t ht))
 obtain⟨k4,p4,c4⟩:=zH (zaz (f:=upd (f) 1 0) ht hv1)
 exact⟨(((((0+k0)+k1)+k2)+k3)+k4),by omega,zD hC0 (by decide) zj1 rfl (zlD f t c (ksL [k0,k1,k2,k3,k4])) (zih f t c) fun st=>⟨(zc (k:=((((0+k0)+k1)+k2)+k3)) (m:=k4) (zc (k:=(((0+k0)+k1)+k2)) (m:=k3) (zc (k:=((0+k0)+k1)) (m:=k2) (zc (k:=(0+k0)) (m:=k1) (zc (k:=(0:Nat)) (m:=k0) rfl rfl p0) rfl p1) rfl p2) rfl p3) rfl p4),zm ⟨zal hs,(sbq rfl).trans hq,zal (show (c:Int)=(t:Int) by omega),trivial⟩ trivial,
  ⟨zi c0 p0 rfl (fun ρ=>rfl) (fun ρ=>yD thA),
   zi c1 p1 rfl (fun ρ=>rfl) (fun ρ=>rfl),
   zi c2 p2 rfl (fun ρ=>rfl) (fun ρ=>rfl),
   zi c3 p3 rfl (fun ρ=>rfl) (fun ρ=>yD thA),
   zi c4 p4 rfl (fun ρ=>yY rfl thA) (fun ρ=>rfl),
   trivial⟩,
  zn trivial,fun ρ=>rfl,fun ρ=>rfl⟩⟩
def zlB (f:Nat->Int) (t:Nat) (c:Nat) (ks:Nat->Int):Nat->Int:=fun i=>match i / 100 with
 | 0=>(t:Int)
 | 1=>ym (za f t) (zp f t) (i % 100)
 | 2=>(c:Int)
 | 3=>ym (za (f) t) (zp (f) t) (i % 100)
 | 90=>ks (i % 100)
 | _=>0
def zif (f:Nat->Int) (t:Nat) (c:Nat):Nat->Nat->Int:=fun q=>match q with
 | 0=>f
 | 1=>f
 | 2=>f
 | 3=>f
 | 4=>zg (f) t { za (f) t with st:=0 }
 | _=>f
theorem zjZ:yP cx0 cR [⟨62,[(.si .i64 (.v 1))],1,(.tup [(tD 100),(.i .i64 0)]),(.v 9000)⟩,
 ⟨67,[],2,(.si .i64 (.v 200)),(.v 9001)⟩,
 ⟨62,[(.si .i64 (.v 1))],3,(.tup [(tD 300),(.i .i64 0)]),(.v 9002)⟩,
 ⟨83,[(.si .i64 (.v 1)),(tA 300 (.i .i64 0) (sv 301) (sv 302) (tv 303) (sv 304) (sv 305) (sv 306) (sv 307) (tv 308) (tv 309) (sv 310) (sv 311) (sv 312) (sv 313))],4,(.i .i64 0),(.v 9003)⟩]
 [] 57 [.si .i64 (.v 1),.i .i64 0] ⟨[((.cmp .eql (.v 100) (.lit 1)),true),((.cmp .eql (.v 103) (.lit 1)),false),((.cmp .eql (.v 200) (.v 1)),false)],[]⟩ (.tup []) 4 s4=0:=by decide +kernel
theorem zrH (s:SS TT f Q P c) (ht:TT t) (hs:(za f t).st=1) (hq:(za f t).q=false) (hc:t≠c)  : zJ PP cR 57 [.int .i64 t,.int .i64 0] (f) (.tuple #[]) (zg (f) t { za (f) t with st:=0 }):=by
 have h:=s.q
 have hv:=zh (h.thr t ht)
 have htl:=zd.lo t ht
 have hth:=zd.hi t ht
 have qg:=h
 have hv1:=zah (zh (qg.thr t ht)) (x:=0) (by omega)
 obtain⟨k0,p0,c0⟩:=zH (jH ht (h.thr t ht))
 obtain⟨k1,p1,c1⟩:=zdf s.ct s.cur
 obtain⟨k2,p2,c2⟩:=zH (jH (f:=f) ht (qg.thr t ht))
 obtain⟨k3,p3,c3⟩:=zH (zaz (f:=f) ht hv1)
 exact⟨((((0+k0)+k1)+k2)+k3),by omega,zD hC0 (by decide) zjZ rfl (zlB f t c (ksL [k0,k1,k2,k3])) (zif f t c) fun st=>⟨(zc (k:=(((0+k0)+k1)+k2)) (m:=k3) (zc (k:=((0+k0)+k1)) (m:=k2) (zc (k:=(0+k0)) (m:=k1) (zc (k:=(0:Nat)) (m:=k0) rfl rfl p0) rfl p1) rfl p2) rfl p3),zm ⟨zal hs,(sbq rfl).trans hq,yM (show (c:Int)≠(t:Int) by omega),trivial⟩ trivial,
  ⟨zi c0 p0 rfl (fun ρ=>rfl) (fun ρ=>yD thA),
   zi c1 p1 rfl (fun ρ=>rfl) (fun ρ=>rfl),
   zi c2 p2 rfl (fun ρ=>rfl) (fun ρ=>yD thA),
   zi c3 p3 rfl (fun ρ=>yY rfl thA) (fun ρ=>rfl),
   trivial⟩,
  zn trivial,fun ρ=>rfl,fun ρ=>rfl⟩⟩
def zlz (f:Nat->Int) (t:Nat) (c:Nat) (ks:Nat->Int):Nat->Int:=fun i=>match i / 100 with
 | 0=>(t:Int)
 | 1=>ym (za f t) (zp f t) (i % 100)
 | 2=>(c:Int)
 | 4=>ym (za (upd (f) 1 0) t) (zp (upd (f) 1 0) t) (i % 100)
 | 90=>ks (i % 100)
 | _=>0
def zid (f:Nat->Int) (t:Nat) (c:Nat):Nat->Nat->Int:=fun q=>match q with
 | 0=>f
 | 1=>f
 | 2=>f
 | 3=>upd (f) 1 0
 | 4=>upd (f) 1 0
 | 5=>zg (upd (f) 1 0) t { za (upd (f) 1 0) t with st:=0 }
 | _=>f
theorem zjX:yP cx0 cR [⟨62,[(.si .i64 (.v 1))],1,(.tup [(tD 100),(.i .i64 0)]),(.v 9000)⟩,
 ⟨67,[],2,(.si .i64 (.v 200)),(.v 9001)⟩,
 ⟨76,[(.i .i64 0)],3,(.i .i64 0),(.v 9002)⟩,
 ⟨62,[(.si .i64 (.v 1))],4,(.tup [(tD 400),(.i .i64 0)]),(.v 9003)⟩,
 ⟨83,[(.si .i64 (.v 1)),(tA 400 (.i .i64 0) (sv 401) (sv 402) (tv 403) (sv 404) (sv 405) (sv 406) (sv 407) (tv 408) (tv 409) (sv 410) (sv 411) (sv 412) (sv 413))],5,(.i .i64 0),(.v 9004)⟩]
 [] 57 [.si .i64 (.v 1),.i .i64 0] ⟨[((.cmp .eql (.v 100) (.lit 1)),false),((.cmp .eql (.v 200) (.v 1)),true)],[]⟩ (.tup []) 5 s5=0:=by decide +kernel
theorem zrF (s:SS TT f Q P c) (ht:TT t) (hs:(za f t).st≠1) (hq:(za f t).q=false) (hc:t=c)  : zJ PP cR 57 [.int .i64 t,.int .i64 0] (f) (.tuple #[]) (zg (upd (f) 1 0) t { za (upd (f) 1 0) t with st:=0 }):=by
 have h:=s.q
 have hv:=zh (h.thr t ht)
 have htl:=zd.lo t ht
 have hth:=zd.hi t ht
 have qg:=zek zd h 0
 have hv1:=zah (zh (qg.thr t ht)) (x:=0) (by omega)
 obtain⟨k0,p0,c0⟩:=zH (jH ht (h.thr t ht))
 obtain⟨k1,p1,c1⟩:=zdf s.ct s.cur
 obtain⟨k2,p2,c2⟩:=zkf (TT:=TT) (t:=0) (.inl rfl) (f)
 obtain⟨k3,p3,c3⟩:=zH (jH (f:=upd (f) 1 0) ht (qg.thr t ht))
 obtain⟨k4,p4,c4⟩:=zH (zaz (f:=upd (f) 1 0) ht hv1)
 exact⟨(((((0+k0)+k1)+k2)+k3)+k4),by omega,zD hC0 (by decide) zjX rfl (zlz f t c (ksL [k0,k1,k2,k3,k4])) (zid f t c) fun st=>⟨(zc (k:=((((0+k0)+k1)+k2)+k3)) (m:=k4) (zc (k:=(((0+k0)+k1)+k2)) (m:=k3) (zc (k:=((0+k0)+k1)) (m:=k2) (zc (k:=(0+k0)) (m:=k1) (zc (k:=(0:Nat)) (m:=k0) rfl rfl p0) rfl p1) rfl p2) rfl p3) rfl p4),zm ⟨yM hs,zal (show (c:Int)=(t:Int) by omega),trivial⟩ trivial,
  ⟨zi c0 p0 rfl (fun ρ=>rfl) (fun ρ=>yD thA),
   zi c1 p1 rfl (fun ρ=>rfl) (fun ρ=>rfl),
   zi c2 p2 rfl (fun ρ=>rfl) (fun ρ=>rfl),
   zi c3 p3 rfl (fun ρ=>rfl) (fun ρ=>yD thA),
   zi c4 p4 rfl (fun ρ=>yY rfl thA) (fun ρ=>rfl),
   trivial⟩,
  zn trivial,fun ρ=>rfl,fun ρ=>rfl⟩⟩
def zlx (f:Nat->Int) (t:Nat) (c:Nat) (ks:Nat->Int):Nat->Int:=fun i=>match i / 100 with
 | 0=>(t:Int)
 | 1=>ym (za f t) (zp f t) (i % 100)
 | 2=>(c:Int)
 | 3=>ym (za (f) t) (zp (f) t) (i % 100)
 | 90=>ks (i % 100)
 | _=>0
def zib (f:Nat->Int) (t:Nat) (c:Nat):Nat->Nat->Int:=fun q=>match q with
 | 0=>f
 | 1=>f
 | 2=>f
 | 3=>f
 | 4=>zg (f) t { za (f) t with st:=0 }
 | _=>f
theorem zjV:yP cx0 cR [⟨62,[(.si .i64 (.v 1))],1,(.tup [(tD 100),(.i .i64 0)]),(.v 9000)⟩,
 ⟨67,[],2,(.si .i64 (.v 200)),(.v 9001)⟩,
 ⟨62,[(.si .i64 (.v 1))],3,(.tup [(tD 300),(.i .i64 0)]),(.v 9002)⟩,
 ⟨83,[(.si .i64 (.v 1)),(tA 300 (.i .i64 0) (sv 301) (sv 302) (tv 303) (sv 304) (sv 305) (sv 306) (sv 307) (tv 308) (tv 309) (sv 310) (sv 311) (sv 312) (sv 313))],4,(.i .i64 0),(.v 9003)⟩]
 [] 57 [.si .i64 (.v 1),.i .i64 0] ⟨[((.cmp .eql (.v 100) (.lit 1)),false),((.cmp .eql (.v 200) (.v 1)),false)],[]⟩ (.tup []) 4 s4=0:=by decide +kernel
theorem zrD (s:SS TT f Q P c) (ht:TT t) (hs:(za f t).st≠1) (hq:(za f t).q=false) (hc:t≠c)  : zJ PP cR 57 [.int .i64 t,.int .i64 0] (f) (.tuple #[]) (zg (f) t { za (f) t with st:=0 }):=by
 have h:=s.q
 have hv:=zh (h.thr t ht)
 have htl:=zd.lo t ht
 have hth:=zd.hi t ht
 have qg:=h
 have hv1:=zah (zh (qg.thr t ht)) (x:=0) (by omega)
 obtain⟨k0,p0,c0⟩:=zH (jH ht (h.thr t ht))
 obtain⟨k1,p1,c1⟩:=zdf s.ct s.cur
 obtain⟨k2,p2,c2⟩:=zH (jH (f:=f) ht (qg.thr t ht))
 obtain⟨k3,p3,c3⟩:=zH (zaz (f:=f) ht hv1)
 exact⟨((((0+k0)+k1)+k2)+k3),by omega,zD hC0 (by decide) zjV rfl (zlx f t c (ksL [k0,k1,k2,k3])) (zib f t c) fun st=>⟨(zc (k:=(((0+k0)+k1)+k2)) (m:=k3) (zc (k:=((0+k0)+k1)) (m:=k2) (zc (k:=(0+k0)) (m:=k1) (zc (k:=(0:Nat)) (m:=k0) rfl rfl p0) rfl p1) rfl p2) rfl p3),zm ⟨yM hs,yM (show (c:Int)≠(t:Int) by omega),trivial⟩ trivial,
  ⟨zi c0 p0 rfl (fun ρ=>rfl) (fun ρ=>yD thA),
   zi c1 p1 rfl (fun ρ=>rfl) (fun ρ=>rfl),
   zi c2 p2 rfl (fun ρ=>rfl) (fun ρ=>yD thA),
   zi c3 p3 rfl (fun ρ=>yY rfl thA) (fun ρ=>rfl),
   trivial⟩,
  zn trivial,fun ρ=>rfl,fun ρ=>rfl⟩⟩
theorem zrB (s:SS TT f Q P c) (ht:TT t):zJ PP cR 57 [.int .i64 t,.int .i64 0] f (.tuple #[]) (zd9 f t 0):=by
 have zr:=s.run t ht
 unfold zd9 zbY zc8
 cases hq:(za f t).q with
 | true=>
  have hc:t≠c:=fun e=>by
   have:=s.nc (e ▸ ht)
   rw[<- e,hq]at this;cases this
  have hs:(za f t).st=1:=by rw[s.st ht];exact zr.2 (.inr hq)
  rw[if_neg (show ¬ f 1=(t:Int) by rw[s.cur];omega),if_pos rfl]
  exact zrL s ht hs hq hc
 | false=>
  rw[if_neg (show ¬ false=true by simp)]
  by_cases hc:t=c
  ·rw[if_pos (show f 1=(t:Int) by rw[s.cur,hc])]
   by_cases hs:(za f t).st=1
   ·exact zrJ s ht hs hq hc
   ·exact zrF s ht hs hq hc
  ·rw[if_neg (show ¬ f 1=(t:Int) by rw[s.cur];omega)]
   by_cases hs:(za f t).st=1
   ·exact zrH s ht hs hq hc
   ·exact zrD s ht hs hq hc
end Go.Ev.X
end
