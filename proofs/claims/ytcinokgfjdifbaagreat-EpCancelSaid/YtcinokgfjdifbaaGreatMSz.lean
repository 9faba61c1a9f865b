import Derived.Test.YtcinokgfjdifbaaGreatMSp
import Derived.Test.YtcinokgfjdifbaaGreatMSr
set_option linter.unusedSimpArgs false
set_option linter.unusedVariables false
set_option maxRecDepth 100000
noncomputable section
namespace Go.Ev.X
open Go Go.Ev Go.Proofs
variable {TT:Nat->Prop} [SubT TT]
variable {f:Nat->Int} {Q:Nat->List Nat} {P:Nat->TV} {c t:Nat}
def zl4 (f:Nat->Int) (t:Nat) (c:Nat) (ks:Nat->Int):Nat->Int:=fun i=>match i / 100 with
 | 0=>(t:Int)
 | 1=>ym (za f t) (zp f t) (i % 100)
 | 3=>(c:Int)
 | 4=>ym (za (z4 f t) t) (zp (z4 f t) t) (i % 100)
 | 90=>ks (i % 100)
 | _=>0
def ziI (f:Nat->Int) (t:Nat) (c:Nat):Nat->Nat->Int:=fun q=>match q with
 | 0=>f
 | 1=>f
 | 2=>z4 f t
 | 3=>z4 f t
 | 4=>z4 f t
 | 5=>zg (z4 f t) t { za (z4 f t) t with st:=0 }
 | _=>f
theorem zkr:yP cx0 cP [⟨13,[(.si .i64 (.v 1))],1,(.tup [(tD 100),(.i .i64 0)]),(.v 9000)⟩,
 ⟨71,[(.si .i64 (.v 1))],2,(.i .i64 0),(.v 9001)⟩,
 ⟨95,[],3,(.si .i64 (.v 300)),(.v 9002)⟩,
 ⟨13,[(.si .i64 (.v 1))],4,(.tup [(tD 400),(.i .i64 0)]),(.v 9003)⟩,
 ⟨59,[(.si .i64 (.v 1)),(tA 400 (.i .i64 0) (sv 401) (sv 402) (tv 403) (sv 404) (sv 405) (sv 406) (sv 407) (tv 408) (tv 409) (sv 410) (sv 411) (sv 412) (sv 413))],5,(.i .i64 0),(.v 9004)⟩]
 [] 56 [.si .i64 (.v 1),.i .i64 0] ⟨[((.cmp .eql (.v 100) (.lit 1)),true),((.cmp .eql (.v 103) (.lit 1)),true),((.cmp .eql (.v 300) (.v 1)),false)],[]⟩ (.tup []) 5 s5=0:=by decide +kernel
theorem zsg (s:SS TT f Q P c) (ht:TT t) (hs:(za f t).st=1) (hq:(za f t).q=true) (hc:t≠c)  : zK PP cP 56 [.int .i64 t,.int .i64 0] (f) (.tuple #[]) (zg (z4 f t) t { za (z4 f t) t with st:=0 }):=by
 have h:=s.q
 have hv:=zh (h.thr t ht)
 have htl:=zd.lo t ht
 have hth:=zd.hi t ht
 have q1:=zif zd s ht hq
 have dc:=(zdP zd s ht hq).2.2
 have qg:=q1
 have hv1:=zam (zh (qg.thr t ht)) (x:=0) (by omega)
 obtain⟨k0,p0,c0⟩:=zJ (jB ht (h.thr t ht))
 obtain⟨k1,p1,c1⟩:=zlk h ht hq
 obtain⟨k2,p2,c2⟩:=zdQ s.ct dc
 obtain⟨k3,p3,c3⟩:=zJ (jB (f:=z4 f t) ht (qg.thr t ht))
 obtain⟨k4,p4,c4⟩:=zJ (zaC (f:=z4 f t) ht hv1)
 exact⟨(((((0+k0)+k1)+k2)+k3)+k4),by omega,zH hC0 (by decide) zkr rfl (zl4 f t c (ksL [k0,k1,k2,k3,k4])) (ziI f t c) fun st=>⟨(zc (k:=((((0+k0)+k1)+k2)+k3)) (m:=k4) (zc (k:=(((0+k0)+k1)+k2)) (m:=k3) (zc (k:=((0+k0)+k1)) (m:=k2) (zc (k:=(0+k0)) (m:=k1) (zc (k:=(0:Nat)) (m:=k0) rfl rfl p0) rfl p1) rfl p2) rfl p3) rfl p4),zm ⟨zae hs,(sbq rfl).trans hq,yB (show (c:Int)≠(t:Int) by omega),trivial⟩ trivial,
  ⟨zi c0 p0 rfl (fun ρ=>rfl) (fun ρ=>yF thA),
   zi c1 p1 rfl (fun ρ=>rfl) (fun ρ=>rfl),
   zi c2 p2 rfl (fun ρ=>rfl) (fun ρ=>rfl),
   zi c3 p3 rfl (fun ρ=>rfl) (fun ρ=>yF thA),
   zi c4 p4 rfl (fun ρ=>jg rfl thA) (fun ρ=>rfl),
   trivial⟩,
  zn trivial,fun ρ=>rfl,fun ρ=>rfl⟩⟩
def zl2 (f:Nat->Int) (t:Nat) (c:Nat) (ks:Nat->Int):Nat->Int:=fun i=>match i / 100 with
 | 0=>(t:Int)
 | 1=>ym (za f t) (zp f t) (i % 100)
 | 2=>(c:Int)
 | 4=>ym (za (upd (f) 1 0) t) (zp (upd (f) 1 0) t) (i % 100)
 | 90=>ks (i % 100)
 | _=>0
def ziG (f:Nat->Int) (t:Nat) (c:Nat):Nat->Nat->Int:=fun q=>match q with
 | 0=>f
 | 1=>f
 | 2=>f
 | 3=>upd (f) 1 0
 | 4=>upd (f) 1 0
 | 5=>zg (upd (f) 1 0) t { za (upd (f) 1 0) t with st:=0 }
 | _=>f
theorem zkp:yP cx0 cP [⟨13,[(.si .i64 (.v 1))],1,(.tup [(tD 100),(.i .i64 0)]),(.v 9000)⟩,
 ⟨95,[],2,(.si .i64 (.v 200)),(.v 9001)⟩,
 ⟨110,[(.i .i64 0)],3,(.i .i64 0),(.v 9002)⟩,
 ⟨13,[(.si .i64 (.v 1))],4,(.tup [(tD 400),(.i .i64 0)]),(.v 9003)⟩,
 ⟨59,[(.si .i64 (.v 1)),(tA 400 (.i .i64 0) (sv 401) (sv 402) (tv 403) (sv 404) (sv 405) (sv 406) (sv 407) (tv 408) (tv 409) (sv 410) (sv 411) (sv 412) (sv 413))],5,(.i .i64 0),(.v 9004)⟩]
 [] 56 [.si .i64 (.v 1),.i .i64 0] ⟨[((.cmp .eql (.v 100) (.lit 1)),true),((.cmp .eql (.v 103) (.lit 1)),false),((.cmp .eql (.v 200) (.v 1)),true)],[]⟩ (.tup []) 5 s5=0:=by decide +kernel
theorem zse (s:SS TT f Q P c) (ht:TT t) (hs:(za f t).st=1) (hq:(za f t).q=false) (hc:t=c)  : zK PP cP 56 [.int .i64 t,.int .i64 0] (f) (.tuple #[]) (zg (upd (f) 1 0) t { za (upd (f) 1 0) t with st:=0 }):=by
 have h:=s.q
 have hv:=zh (h.thr t ht)
 have htl:=zd.lo t ht
 have hth:=zd.hi t ht
 have qg:=zeC zd h 0
 have hv1:=zam (zh (qg.thr t ht)) (x:=0) (by omega)
 obtain⟨k0,p0,c0⟩:=zJ (jB ht (h.thr t ht))
 obtain⟨k1,p1,c1⟩:=zdQ s.ct s.cur
 obtain⟨k2,p2,c2⟩:=zkE (TT:=TT) (t:=0) (.inl rfl) (f)
 obtain⟨k3,p3,c3⟩:=zJ (jB (f:=upd (f) 1 0) ht (qg.thr t ht))
 obtain⟨k4,p4,c4⟩:=zJ (zaC (f:=upd (f) 1 0) ht hv1)
 exact⟨(((((0+k0)+k1)+k2)+k3)+k4),by omega,zH hC0 (by decide) zkp rfl (zl2 f t c (ksL [k0,k1,k2,k3,k4])) (ziG f t c) fun st=>⟨(zc (k:=((((0+k0)+k1)+k2)+k3)) (m:=k4) (zc (k:=(((0+k0)+k1)+k2)) (m:=k3) (zc (k:=((0+k0)+k1)) (m:=k2) (zc (k:=(0+k0)) (m:=k1) (zc (k:=(0:Nat)) (m:=k0) rfl rfl p0) rfl p1) rfl p2) rfl p3) rfl p4),zm ⟨zae hs,(sbq rfl).trans hq,zae (show (c:Int)=(t:Int) by omega),trivial⟩ trivial,
  ⟨zi c0 p0 rfl (fun ρ=>rfl) (fun ρ=>yF thA),
   zi c1 p1 rfl (fun ρ=>rfl) (fun ρ=>rfl),
   zi c2 p2 rfl (fun ρ=>rfl) (fun ρ=>rfl),
   zi c3 p3 rfl (fun ρ=>rfl) (fun ρ=>yF thA),
   zi c4 p4 rfl (fun ρ=>jg rfl thA) (fun ρ=>rfl),
   trivial⟩,
  zn trivial,fun ρ=>rfl,fun ρ=>rfl⟩⟩
def zl0 (f:Nat->Int) (t:Nat) (c:Nat) (ks:Nat->Int):Nat->Int:=fun i=>match i / 100 with
 | 0=>(t:Int)
 | 1=>ym (za f t) (zp f t) (i % 100)
 | 2=>(c:Int)
 | 3=>ym (za (f) t) (zp (f) t) (i % 100)
 | 90=>ks (i % 100)
 | _=>0
def ziE (f:Nat->Int) (t:Nat) (c:Nat):Nat->Nat->Int:=fun q=>match q with
 | 0=>f
 | 1=>f
 | 2=>f
 | 3=>f
 | 4=>zg (f) t { za (f) t with st:=0 }
 | _=>f
theorem zkn:yP cx0 cP [⟨13,[(.si .i64 (.v 1))],1,(.tup [(tD 100),(.i .i64 0)]),(.v 9000)⟩,
 ⟨95,[],2,(.si .i64 (.v 200)),(.v 9001)⟩,
 ⟨13,[(.si .i64 (.v 1))],3,(.tup [(tD 300),(.i .i64 0)]),(.v 9002)⟩,
 ⟨59,[(.si .i64 (.v 1)),(tA 300 (.i .i64 0) (sv 301) (sv 302) (tv 303) (sv 304) (sv 305) (sv 306) (sv 307) (tv 308) (tv 309) (sv 310) (sv 311) (sv 312) (sv 313))],4,(.i .i64 0),(.v 9003)⟩]
 [] 56 [.si .i64 (.v 1),.i .i64 0] ⟨[((.cmp .eql (.v 100) (.lit 1)),true),((.cmp .eql (.v 103) (.lit 1)),false),((.cmp .eql (.v 200) (.v 1)),false)],[]⟩ (.tup []) 4 s4=0:=by decide +kernel
theorem zsc (s:SS TT f Q P c) (ht:TT t) (hs:(za f t).st=1) (hq:(za f t).q=false) (hc:t≠c)  : zK PP cP 56 [.int .i64 t,.int .i64 0] (f) (.tuple #[]) (zg (f) t { za (f) t with st:=0 }):=by
 have h:=s.q
 have hv:=zh (h.thr t ht)
 have htl:=zd.lo t ht
 have hth:=zd.hi t ht
 have qg:=h
 have hv1:=zam (zh (qg.thr t ht)) (x:=0) (by omega)
 obtain⟨k0,p0,c0⟩:=zJ (jB ht (h.thr t ht))
 obtain⟨k1,p1,c1⟩:=zdQ s.ct s.cur
 obtain⟨k2,p2,c2⟩:=zJ (jB (f:=f) ht (qg.thr t ht))
 obtain⟨k3,p3,c3⟩:=zJ (zaC (f:=f) ht hv1)
 exact⟨((((0+k0)+k1)+k2)+k3),by omega,zH hC0 (by decide) zkn rfl (zl0 f t c (ksL [k0,k1,k2,k3])) (ziE f t c) fun st=>⟨(zc (k:=(((0+k0)+k1)+k2)) (m:=k3) (zc (k:=((0+k0)+k1)) (m:=k2) (zc (k:=(0+k0)) (m:=k1) (zc (k:=(0:Nat)) (m:=k0) rfl rfl p0) rfl p1) rfl p2) rfl p3),zm ⟨zae hs,(sbq rfl).trans hq,yB (show (c:Int)≠(t:Int) by omega),trivial⟩ trivial,
  ⟨zi c0 p0 rfl (fun ρ=>rfl) (fun ρ=>yF thA),
   zi c1 p1 rfl (fun ρ=>rfl) (fun ρ=>rfl),
   zi c2 p2 rfl (fun ρ=>rfl) (fun ρ=>yF thA),
   zi c3 p3 rfl (fun ρ=>jg rfl thA) (fun ρ=>rfl),
   trivial⟩,
  zn trivial,fun ρ=>rfl,fun ρ=>rfl⟩⟩
def zlY (f:Nat->Int) (t:Nat) (c:Nat) (ks:Nat->Int):Nat->Int:=fun i=>match i / 100 with
 | 0=>(t:Int)
 | 1=>ym (za f t) (zp f t) (i % 100)
 | 2=>(c:Int)
 | 4=>ym (za (upd (f) 1 0) t) (zp (upd (f) 1 0) t) (i % 100)
 | 90=>ks (i % 100)
 | _=>0
def ziC (f:Nat->Int) (t:Nat) (c:Nat):Nat->Nat->Int:=fun q=>match q with
 | 0=>f
 | 1=>f
 | 2=>f
 | 3=>upd (f) 1 0
 | 4=>upd (f) 1 0
 | 5=>zg (upd (f) 1 0) t { za (upd (f) 1 0) t with st:=0 }
 | _=>f
theorem zkl:yP cx0 cP [⟨13,[(.si .i64 (.v 1))],1,(.tup [(tD 100),(.i .i64 0)]),(.v 9000)⟩,
 ⟨95,[],2,(.si .i64 (.v 200)),(.v 9001)⟩,
 ⟨110,[(.i .i64 0)],3,(.i .i64 0),(.v 9002)⟩,
 ⟨13,[(.si .i64 (.v 1))],4,(.tup [(tD 400),(.i .i64 0)]),(.v 9003)⟩,
 ⟨59,[(.si .i64 (.v 1)),(tA 400 (.i .i64 0) (sv 401) (sv 402) (tv 403) (sv 404) (sv 405) (sv 406) (sv 407) (tv 408) (tv 409) (sv 410) (sv 411) (sv 412) (sv 413))],5,(.i .i64 0),(.v 9004)⟩]
 [] 56 [.si .i64 (.v 1),.i .i64 0] ⟨[((.cmp .eql (.v 100) (.lit 1)),false),((.cmp .eql (.v 200) (.v 1)),true)],[]⟩ (.tup []) 5 s5=0:=by decide +kernel
theorem zsa (s:SS TT f Q P c) (ht:TT t) (hs:(za f t).st≠1) (hq:(za f t).q=false) (hc:t=c)  : zK PP cP 56 [.int .i64 t,.int .i64 0] (f) (.tuple #[]) (zg (upd (f) 1 0) t { za (upd (f) 1 0) t with st:=0 }):=by
 have h:=s.q
 have hv:=zh (h.thr t ht)
 have htl:=zd.lo t ht
 have hth:=zd.hi t ht
 have qg:=zeC zd h 0
 have hv1:=zam (zh (qg.thr t ht)) (x:=0) (by omega)
 obtain⟨k0,p0,c0⟩:=zJ (jB ht (h.thr t ht))
 obtain⟨k1,p1,c1⟩:=zdQ s.ct s.cur
 obtain⟨k2,p2,c2⟩:=zkE (TT:=TT) (t:=0) (.inl rfl) (f)
 obtain⟨k3,p3,c3⟩:=zJ (jB (f:=upd (f) 1 0) ht (qg.thr t ht))
 obtain⟨k4,p4,c4⟩:=zJ (zaC (f:=upd (f) 1 0) ht hv1)
 exact⟨(((((0+k0)+k1)+k2)+k3)+k4),by omega,zH hC0 (by decide) zkl rfl (zlY f t c (ksL [k0,k1,k2,k3,k4])) (ziC f t c) fun st=>⟨(zc (k:=((((0+k0)+k1)+k2)+k3)) (m:=k4) (zc (k:=(((0+k0)+k1)+k2)) (m:=k3) (zc (k:=((0+k0)+k1)) (m:=k2) (zc (k:=(0+k0)) (m:=k1) (zc (k:=(0:Nat)) (m:=k0) rfl rfl p0) rfl p1) rfl p2) rfl p3) rfl p4),zm ⟨yB hs,zae (show (c:Int)=(t:Int) by omega),trivial⟩ trivial,
  ⟨zi c0 p0 rfl (fun ρ=>rfl) (fun ρ=>yF thA),
   zi c1 p1 rfl (fun ρ=>rfl) (fun ρ=>rfl),
   zi c2 p2 rfl (fun ρ=>rfl) (fun ρ=>rfl),
   zi c3 p3 rfl (fun ρ=>rfl) (fun ρ=>yF thA),
   zi c4 p4 rfl (fun ρ=>jg rfl thA) (fun ρ=>rfl),
   trivial⟩,
  zn trivial,fun ρ=>rfl,fun ρ=>rfl⟩⟩
def zlW (f:Nat->Int) (t:Nat) (c:Nat) (ks:Nat->Int):Nat->Int:=fun i=>match i / 100 with
 | 0=>(t:Int)
 | 1=>ym (za f t) (zp f t) (i % 100)
 | 2=>(c:Int)
 | 3=>ym (za (f) t) (zp (f) t) (i % 100)
 | 90=>ks (i % 100)
 | _=>0
def ziA (f:Nat->Int) (t:Nat) (c:Nat):Nat->Nat->Int:=fun q=>match q with
 | 0=>f
 | 1=>f
 | 2=>f
 | 3=>f
 | 4=>zg (f) t { za (f) t with st:=0 }
 | _=>f
theorem zkj:yP cx0 cP [⟨13,[(.si .i64 (.v 1))],1,(.tup [(tD 100),(.i .i64 0)]),(.v 9000)⟩,
 ⟨95,[],2,(.si .i64 (.v 200)),(.v 9001)⟩,
 ⟨13,[(.si .i64 (.v 1))],3,(.tup [(tD 300),(.i .i64 0)]),(.v 9002)⟩,
 ⟨59,[(.si .i64 (.v 1)),(tA 300 (.i .i64 0) (sv 301) (sv 302) (tv 303) (sv 304) (sv 305) (sv 306) (sv 307) (tv 308) (tv 309) (sv 310) (sv 311) (sv 312) (sv 313))],4,(.i .i64 0),(.v 9003)⟩]
 [] 56 [.si .i64 (.v 1),.i .i64 0] ⟨[((.cmp .eql (.v 100) (.lit 1)),false),((.cmp .eql (.v 200) (.v 1)),false)],[]⟩ (.tup []) 4 s4=0:=by decide +kernel
theorem zr8 (s:SS TT f Q P c) (ht:TT t) (hs:(za f t).st≠1) (hq:(za f t).q=false) (hc:t≠c)  : zK PP cP 56 [.int .i64 t,.int .i64 0] (f) (.tuple #[]) (zg (f) t { za (f) t with st:=0 }):=by
 have h:=s.q
 have hv:=zh (h.thr t ht)
 have htl:=zd.lo t ht
 have hth:=zd.hi t ht
 have qg:=h
 have hv1:=zam (zh (qg.thr t ht)) (x:=0) (by omega)
 obtain⟨k0,p0,c0⟩:=zJ (jB ht (h.thr t ht))
 obtain⟨k1,p1,c1⟩:=zdQ s.ct s.cur
 obtain⟨k2,p2,c2⟩:=zJ (jB (f:=f) ht (qg.thr t ht))
 obtain⟨k3,p3,c3⟩:=zJ (zaC (f:=f) ht hv1)
 exact⟨((((0+k0)+k1)+k2)+k3),by omega,zH hC0 (by decide) zkj rfl (zlW f t c (ksL [k0,k1,k2,k3])) (ziA f t c) fun st=>⟨(zc (k:=(((0+k0)+k1)+k2)) (m:=k3) (zc (k:=((0+k0)+k1)) (m:=k2) (zc (k:=(0+k0)) (m:=k1) (zc (k:=(0:Nat)) (m:=k0) rfl rfl p0) rfl p1) rfl p2) rfl p3),zm ⟨yB hs,yB (show (c:Int)≠(t:Int) by omega),trivial⟩ trivial,
  ⟨zi c0 p0 rfl (fun ρ=>rfl) (fun ρ=>yF thA),
   zi c1 p1 rfl (fun ρ=>rfl) (fun ρ=>rfl),
   zi c2 p2 rfl (fun ρ=>rfl) (fun ρ=>yF thA),
   zi c3 p3 rfl (fun ρ=>jg rfl thA) (fun ρ=>rfl),
   trivial⟩,
  zn trivial,fun ρ=>rfl,fun ρ=>rfl⟩⟩
theorem zr6 (s:SS TT f Q P c) (ht:TT t):zK PP cP 56 [.int .i64 t,.int .i64 0] f (.tuple #[]) (zeq f t 0):=by
 have zr:=s.run t ht
 unfold zeq zb4 zdm
 cases hq:(za f t).q with
 | true=>
  have hc:t≠c:=fun e=>by
   have:=s.nc (e ▸ ht)
   rw[<- e,hq]at this;cases this
  have hs:(za f t).st=1:=by rw[s.st ht];exact zr.2 (.inr hq)
  rw[if_neg (show ¬ f 1=(t:Int) by rw[s.cur];omega),if_pos rfl]
  exact zsg s ht hs hq hc
 | false=>
  rw[if_neg (show ¬ false=true by simp)]
  by_cases hc:t=c
  ·rw[if_pos (show f 1=(t:Int) by rw[s.cur,hc])]
   by_cases hs:(za f t).st=1
   ·exact zse s ht hs hq hc
   ·exact zsa s ht hs hq hc
  ·rw[if_neg (show ¬ f 1=(t:Int) by rw[s.cur];omega)]
   by_cases hs:(za f t).st=1
   ·exact zsc s ht hs hq hc
   ·exact zr8 s ht hs hq hc
end Go.Ev.X
end
set_option linter.unusedSimpArgs false
set_option linter.unusedVariables false
set_option maxRecDepth 100000
noncomputable section
namespace Go.Ev.X
open Go Go.Ev Go.Proofs
variable {TT:Nat->Prop} [SubT TT]
variable {f:Nat->Int} {Q:Nat->List Nat} {P:Nat->TV} {c t:Nat}
def zl3 (f:Nat->Int) (t:Nat) (c:Nat) (ks:Nat->Int):Nat->Int:=fun i=>match i / 100 with
 | 0=>(t:Int)
 | 1=>ym (za f t) (zp f t) (i % 100)
 | 3=>(c:Int)
 | 4=>ym (za (z4 f t) t) (zp (z4 f t) t) (i % 100)
 | 90=>ks (i % 100)
 | _=>0
def ziH (f:Nat->Int) (t:Nat) (c:Nat):Nat->Nat->Int:=fun q=>match q with
 | 0=>f
 | 1=>f
 | 2=>z4 f t
 | 3=>z4 f t
 | 4=>z4 f t
 | 5=>zg (z4 f t) t { za (z4 f t) t with st:=0 }
 | _=>f
theorem zkq:yP cx0 cR [⟨62,[(.si .i64 (.v 1))],1,(.tup [(tD 100),(.i .i64 0)]),(.v 9000)⟩,
 ⟨75,[(.si .i64 (.v 1))],2,(.i .i64 0),(.v 9001)⟩,
 ⟨67,[],3,(.si .i64 (.v 300)),(.v 9002)⟩,
 ⟨62,[(.si .i64 (.v 1))],4,(.tup [(tD 400),(.i .i64 0)]),(.v 9003)⟩,
 ⟨83,[(.si .i64 (.v 1)),(tA 400 (.i .i64 0) (sv 401) (sv 402) (tv 403) (sv 404) (sv 405) (sv 406) (sv 407) (tv 408) (tv 409) (sv 410) (sv 411) (sv 412) (sv 413))],5,(.i .i64 0),(.v 9004)⟩]
 [] 57 [.si .i64 (.v 1),.i .i64 0] ⟨[((.cmp .eql (.v 100) (.lit 1)),true),((.cmp .eql (.v 103) (.lit 1)),true),((.cmp .eql (.v 300) (.v 1)),false)],[]⟩ (.tup []) 5 s5=0:=by decide +kernel
theorem zsf (s:SS TT f Q P c) (ht:TT t) (hs:(za f t).st=1) (hq:(za f t).q=true) (hc:t≠c)  : zK PP cR 57 [.int .i64 t,.int .i64 0] (f) (.tuple #[]) (zg (z4 f t) t { za (z4 f t) t with st:=0 }):=by
 have h:=s.q
 have hv:=zh (h.thr t ht)
 have htl:=zd.lo t ht
 have hth:=zd.hi t ht
 have q1:=zif zd s ht hq
 have dc:=(zdP zd s ht hq).2.2
 have qg:=q1
 have hv1:=zam (zh (qg.thr t ht)) (x:=0) (by omega)
 obtain⟨k0,p0,c0⟩:=zJ (jH ht (h.thr t ht))
 obtain⟨k1,p1,c1⟩:=zlj h ht hq
 obtain⟨k2,p2,c2⟩:=zds s.ct dc
 obtain⟨k3,p3,c3⟩:=zJ (jH (f:=z4 f t) ht (qg.thr t ht))
 obtain⟨k4,p4,c4⟩:=zJ (zaB (f:=z4 f t) ht hv1)
 exact⟨(((((0+k0)+k1)+k2)+k3)+k4),by omega,zH hC0 (by decide) zkq rfl (zl3 f t c (ksL [k0,k1,k2,k3,k4])) (ziH f t c) fun st=>⟨(zc (k:=((((0+k0)+k1)+k2)+k3)) (m:=k4) (zc (k:=(((0+k0)+k1)+k2)) (m:=k3) (zc (k:=((0+k0)+k1)) (m:=k2) (zc (k:=(0+k0)) (m:=k1) (zc (k:=(0:Nat)) (m:=k0) rfl rfl p0) rfl p1) rfl p2) rfl p3) rfl p4),zm ⟨zae hs,(sbq rfl).trans hq,yB (show (c:Int)≠(t:Int) by omega),trivial⟩ trivial,
  ⟨zi c0 p0 rfl (fun ρ=>rfl) (fun ρ=>yF thA),
   zi c1 p1 rfl (fun ρ=>rfl) (fun ρ=>rfl),
   zi c2 p2 rfl (fun ρ=>rfl) (fun ρ=>rfl),
   zi c3 p3 rfl (fun ρ=>rfl) (fun ρ=>yF thA),
   zi c4 p4 rfl (fun ρ=>jg rfl thA) (fun ρ=>rfl),
   trivial⟩,
  zn trivial,fun ρ=>rfl,fun ρ=>rfl⟩⟩
def zl1 (f:Nat->Int) (t:Nat) (c:Nat) (ks:Nat->Int):Nat->Int:=fun i=>match i / 100 with
 | 0=>(t:Int)
 | 1=>ym (za f t) (zp f t) (i % 100)
 | 2=>(c:Int)
 | 4=>ym (za (upd (f) 1 0) t) (zp (upd (f) 1 0) t) (i % 100)
 | 90=>ks (i % 100)
 | _=>0
def ziF (f:Nat->Int) (t:Nat) (c:Nat):Nat->Nat->Int:=fun q=>match q with
 | 0=>f
 | 1=>f
 | 2=>f
 | 3=>upd (f) 1 0
 | 4=>upd (f) 1 0
 | 5=>zg (upd (f) 1 0) t { za (upd (f) 1 0) t with st:=0 }
 | _=>f
theorem zko:yP cx0 cR [⟨62,[(.si .i64 (.v 1))],1,(.tup [(tD 100),(.i .i64 0)]),(.v 9000)⟩,
 ⟨67,[],2,(.si .i64 (.v 200)),(.v 9001)⟩,
 ⟨76,[(.i .i64 0)],3,(.i .i64 0),(.v 9002)⟩,
 ⟨62,[(.si .i64 (.v 1))],4,(.tup [(tD 400),(.i .i64 0)]),(.v 9003)⟩,
 ⟨83,[(.si .i64 (.v 1)),(tA 400 (.i .i64 0) (sv 401) (sv 402) (tv 403) (sv 404) (sv 405) (sv 406) (sv 407) (tv 408) (tv 409) (sv 410) (sv 411) (sv 412) (sv 413))],5,(.i .i64 0),(.v 9004)⟩]
 [] 57 [.si .i64 (.v 1),.i .i64 0] ⟨[((.cmp .eql (.v 100) (.lit 1)),true),((.cmp .eql (.v 103) (.lit 1)),false),((.cmp .eql (.v 200) (.v 1)),true)],[]⟩ (.tup []) 5 s5=0:=by decide +kernel
theorem zsd (s:SS TT f Q P c) (ht:TT t) (hs:(za f t).st=1) (hq:(za f t).q=false) (hc:t=c)  : zK PP cR 57 [.int .i64 t,.int .i64 0] (f) (.tuple #[]) (zg (upd (f) 1 0) t { za (upd (f) 1 0) t with st:=0 }):=by
 have h:=s.q
 have hv:=zh (h.thr t ht)
 have htl:=zd.lo t ht
 have hth:=zd.hi t ht
 have qg:=zeC zd h 0
 have hv1:=zam (zh (qg.thr t ht)) (x:=0) (by omega)
 obtain⟨k0,p0,c0⟩:=zJ (jH ht (h.thr t ht))
 obtain⟨k1,p1,c1⟩:=zds s.ct s.cur
 obtain⟨k2,p2,c2⟩:=zkD (TT:=TT) (t:=0) (.inl rfl) (f)
 obtain⟨k3,p3,c3⟩:=zJ (jH (f:=upd (f) 1 0) ht (qg.thr t ht))
 obtain⟨k4,p4,c4⟩:=zJ (zaB (f:=upd (f) 1 0) ht hv1)
 exact⟨(((((0+k0)+k1)+k2)+k3)+k4),by omega,zH hC0 (by decide) zko rfl (zl1 f t c (ksL [k0,k1,k2,k3,k4])) (ziF f t c) fun st=>⟨(zc (k:=((((0+k0)+k1)+k2)+k3)) (m:=k4) (zc (k:=(((0+k0)+k1)+k2)) (m:=k3) (zc (k:=((0+k0)+k1)) (m:=k2) (zc (k:=(0+k0)) (m:=k1) (zc (k:=(0:Nat)) (m:=k0) rfl rfl p0) rfl p1) rfl p2) rfl p3) rfl p4),zm ⟨zae hs,(sbq rfl).trans hq,zae (show (c:Int)=(t:Int) by omega),trivial⟩ trivial,
  ⟨zi c0 p0 rfl (fun ρ=>rfl) (fun ρ=>yF thA),
   zi c1 p1 rfl (fun ρ=>rfl) (fun ρ=>rfl),
   zi c2 p2 rfl (fun ρ=>rfl) (fun ρ=>rfl),
   zi c3 p3 rfl (fun ρ=>rfl) (fun ρ=>yF thA),
   zi c4 p4 rfl (fun ρ=>jg rfl thA) (fun ρ=>rfl),
   trivial⟩,
  zn trivial,fun ρ=>rfl,fun ρ=>rfl⟩⟩
def zlZ (f:Nat->Int) (t:Nat) (c:Nat) (ks:Nat->Int):Nat->Int:=fun i=>match i / 100 with
 | 0=>(t:Int)
 | 1=>ym (za f t) (zp f t) (i % 100)
 | 2=>(c:Int)
 | 3=>ym (za (f) t) (zp (f) t) (i % 100)
 | 90=>ks (i % 100)
 | _=>0
def ziD (f:Nat->Int) (t:Nat) (c:Nat):Nat->Nat->Int:=fun q=>match q with
 | 0=>f
 | 1=>f
 | 2=>f
 | 3=>f
 | 4=>zg (f) t { za (f) t with st:=0 }
 | _=>f
theorem zkm:yP cx0 cR [⟨62,[(.si .i64 (.v 1))],1,(.tup [(tD 100),(.i .i64 0)]),(.v 9000)⟩,
 ⟨67,[],2,(.si .i64 (.v 200)),(.v 9001)⟩,
 ⟨62,[(.si .i64 (.v 1))],3,(.tup [(tD 300),(.i .i64 0)]),(.v 9002)⟩,
 ⟨83,[(.si .i64 (.v 1)),(tA 300 (.i .i64 0) (sv 301) (sv 302) (tv 303) (sv 304) (sv 305) (sv 306) (sv 307) (tv 308) (tv 309) (sv 310) (sv 311) (sv 312) (sv 313))],4,(.i .i64 0),(.v 9003)⟩]
 [] 57 [.si .i64 (.v 1),.i .i64 0] ⟨[((.cmp .eql (.v 100) (.lit 1)),true),((.cmp .eql (.v 103) (.lit 1)),false),((.cmp .eql (.v 200) (.v 1)),false)],[]⟩ (.tup []) 4 s4=0:=by decide +kernel
theorem zsb (s:SS TT f Q P c) (ht:TT t) (hs:(za f t).st=1) (hq:(za f t).q=false) (hc:t≠c)  : zK PP cR 57 [.int .i64 t,.int .i64 0] (f) (.tuple #[]) (zg (f) t { za (f) t with st:=0 }):=by
 have h:=s.q
 have hv:=zh (h.thr t ht)
 have htl:=zd.lo t ht
 have hth:=zd.hi t ht
 have qg:=h
 have hv1:=zam (zh (qg.thr t ht)) (x:=0) (by omega)
 obtain⟨k0,p0,c0⟩:=zJ (jH ht (h.thr t ht))
 obtain⟨k1,p1,c1⟩:=zds s.ct s.cur
 obtain⟨k2,p2,c2⟩:=zJ (jH (f:=f) ht (qg.thr t ht))
 obtain⟨k3,p3,c3⟩:=zJ (zaB (f:=f) ht hv1)
 exact⟨((((0+k0)+k1)+k2)+k3),by omega,zH hC0 (by decide) zkm rfl (zlZ f t c (ksL [k0,k1,k2,k3])) (ziD f t c) fun st=>⟨(zc (k:=(((0+k0)+k1)+k2)) (m:=k3) (zc (k:=((0+k0)+k1)) (m:=k2) (zc (k:=(0+k0)) (m:=k1) (zc (k:=(0:Nat)) (m:=k0) rfl rfl p0) rfl p1) rfl p2) rfl p3),zm ⟨zae hs,(sbq rfl).trans hq,yB (show (c:Int)≠(t:Int) by omega),trivial⟩ trivial,
  ⟨zi c0 p0 rfl (fun ρ=>rfl) (fun ρ=>yF thA),
   zi c1 p1 rfl (fun ρ=>rfl) (fun ρ=>rfl),
   zi c2 p2 rfl (fun ρ=>rfl) (fun ρ=>yF thA),
   zi c3 p3 rfl (fun ρ=>jg rfl thA) (fun ρ=>rfl),
   trivial⟩,
  zn trivial,fun ρ=>rfl,fun ρ=>rfl⟩⟩
def zlX (f:Nat->Int) (t:Nat) (c:Nat) (ks:Nat->Int):Nat->Int:=fun i=>match i / 100 with
 | 0=>(t:Int)
 | 1=>ym (za f t) (zp f t) (i % 100)
 | 2=>(c:Int)
 | 4=>ym (za (upd (f) 1 0) t) (zp (upd (f) 1 0) t) (i % 100)
 | 90=>ks (i % 100)
 | _=>0
def ziB (f:Nat->Int) (t:Nat) (c:Nat):Nat->Nat->Int:=fun q=>match q with
 | 0=>f
 | 1=>f
 | 2=>f
 | 3=>upd (f) 1 0
 | 4=>upd (f) 1 0
 | 5=>zg (upd (f) 1 0) t { za (upd (f) 1 0) t with st:=0 }
 | _=>f
theorem zkk:yP cx0 cR [⟨62,[(.si .i64 (.v 1))],1,(.tup [(tD 100),(.i .i64 0)]),(.v 9000)⟩,
 ⟨67,[],2,(.si .i64 (.v 200)),(.v 9001)⟩,
 ⟨76,[(.i .i64 0)],3,(.i .i64 0),(.v 9002)⟩,
 ⟨62,[(.si .i64 (.v 1))],4,(.tup [(tD 400),(.i .i64 0)]),(.v 9003)⟩,
 ⟨83,[(.si .i64 (.v 1)),(tA 400 (.i .i64 0) (sv 401) (sv 402) (tv 403) (sv 404) (sv 405) (sv 406) (sv 407) (tv 408) (tv 409) (sv 410) (sv 411) (sv 412) (sv 413))],5,(.i .i64 0),(.v 9004)⟩]
 [] 57 [.si .i64 (.v 1),.i .i64 0] ⟨[((.cmp .eql (.v 100) (.lit 1)),false),((.cmp .eql (.v 200) (.v 1)),true)],[]⟩ (.tup []) 5 s5=0:=by decide +kernel
theorem zr9 (s:SS TT f Q P c) (ht:TT t) (hs:(za f t).st≠1) (hq:(za f t).q=false) (hc:t=c)  : zK PP cR 57 [.int .i64 t,.int .i64 0] (f) (.tuple #[]) (zg (upd (f) 1 0) t { za (upd (f) 1 0) t with st:=0 }):=by
 have h:=s.q
 have hv:=zh (h.thr t ht)
 have htl:=zd.lo t ht
 have hth:=zd.hi t ht
 have qg:=zeC zd h 0
 have hv1:=zam (zh (qg.thr t ht)) (x:=0) (by omega)
 obtain⟨k0,p0,c0⟩:=zJ (jH ht (h.thr t ht))
 obtain⟨k1,p1,c1⟩:=zds s.ct s.cur
 obtain⟨k2,p2,c2⟩:=zkD (TT:=TT) (t:=0) (.inl rfl) (f)
 obtain⟨k3,p3,c3⟩:=zJ (jH (f:=upd (f) 1 0) ht (qg.thr t ht))
 obtain⟨k4,p4,c4⟩:=zJ (zaB (f:=upd (f) 1 0) ht hv1)
 exact⟨(((((0+k0)+k1)+k2)+k3)+k4),by omega,zH hC0 (by decide) zkk rfl (zlX f t c (ksL [k0,k1,k2,k3,k4])) (ziB f t c) fun st=>⟨(zc (k:=((((0+k0)+k1)+k2)+k3)) (m:=k4) (zc (k:=(((0+k0)+k1)+k2)) (m:=k3) (zc (k:=((0+k0)+k1)) (m:=k2) (zc (k:=(0+k0)) (m:=k1) (zc (k:=(0:Nat)) (m:=k0) rfl rfl p0) rfl p1) rfl p2) rfl p3) rfl p4),zm ⟨yB hs,zae (show (c:Int)=(t:Int) by omega),trivial⟩ trivial,
  ⟨zi c0 p0 rfl (fun ρ=>rfl) (fun ρ=>yF thA),
   zi c1 p1 rfl (fun ρ=>rfl) (fun ρ=>rfl),
   zi c2 p2 rfl (fun ρ=>rfl) (fun ρ=>rfl),
   zi c3 p3 rfl (fun ρ=>rfl) (fun ρ=>yF thA),
   zi c4 p4 rfl (fun ρ=>jg rfl thA) (fun ρ=>rfl),
   trivial⟩,
  zn trivial,fun ρ=>rfl,fun ρ=>rfl⟩⟩
def zlV (f:Nat->Int) (t:Nat) (c:Nat) (ks:Nat->Int):Nat->Int:=fun i=>match i / 100 with
 | 0=>(t:Int)
 | 1=>ym (za f t) (zp f t) (i % 100)
 | 2=>(c:Int)
 | 3=>ym (za (f) t) (zp (f) t) (i % 100)
 | 90=>ks (i % 100)
 | _=>0
def ziz (f:Nat->Int) (t:Nat) (c:Nat):Nat->Nat->Int:=fun q=>match q with
 | 0=>f
 | 1=>f
 | 2=>f
 | 3=>f
 | 4=>zg (f) t { za (f) t with st:=0 }
 | _=>f
theorem zki:yP cx0 cR [⟨62,[(.si .i64 (.v 1))],1,(.tup [(tD 100),(.i .i64 0)]),(.v 9000)⟩,
 ⟨67,[],2,(.si .i64 (.v 200)),(.v 9001)⟩,
 ⟨62,[(.si .i64 (.v 1))],3,(.tup [(tD 300),(.i .i64 0)]),(.v 9002)⟩,
 ⟨83,[(.si .i64 (.v 1)),(tA 300 (.i .i64 0) (sv 301) (sv 302) (tv 303) (sv 304) (sv 305) (sv 306) (sv 307) (tv 308) (tv 309) (sv 310) (sv 311) (sv 312) (sv 313))],4,(.i .i64 0),(.v 9003)⟩]
 [] 57 [.si .i64 (.v 1),.i .i64 0] ⟨[((.cmp .eql (.v 100) (.lit 1)),false),((.cmp .eql (.v 200) (.v 1)),false)],[]⟩ (.tup []) 4 s4=0:=by decide +kernel
theorem zr7 (s:SS TT f Q P c) (ht:TT t) (hs:(za f t).st≠1) (hq:(za f t).q=false) (hc:t≠c)  : zK PP cR 57 [.int .i64 t,.int .i64 0] (f) (.tuple #[]) (zg (f) t { za (f) t with st:=0 }):=by
 have h:=s.q
 have hv:=zh (h.thr t ht)
 have htl:=zd.lo t ht
 have hth:=zd.hi t ht
 have qg:=h
 have hv1:=zam (zh (qg.thr t ht)) (x:=0) (by omega)
 obtain⟨k0,p0,c0⟩:=zJ (jH ht (h.thr t ht))
 obtain⟨k1,p1,c1⟩:=zds s.ct s.cur
 obtain⟨k2,p2,c2⟩:=zJ (jH (f:=f) ht (qg.thr t ht))
 obtain⟨k3,p3,c3⟩:=zJ (zaB (f:=f) ht hv1)
 exact⟨((((0+k0)+k1)+k2)+k3),by omega,zH hC0 (by decide) zki rfl (zlV f t c (ksL [k0,k1,k2,k3])) (ziz f t c) fun st=>⟨(zc (k:=(((0+k0)+k1)+k2)) (m:=k3) (zc (k:=((0+k0)+k1)) (m:=k2) (zc (k:=(0+k0)) (m:=k1) (zc (k:=(0:Nat)) (m:=k0) rfl rfl p0) rfl p1) rfl p2) rfl p3),zm ⟨yB hs,yB (show (c:Int)≠(t:Int) by omega),trivial⟩ trivial,
  ⟨zi c0 p0 rfl (fun ρ=>rfl) (fun ρ=>yF thA),
   zi c1 p1 rfl (fun ρ=>rfl) (fun ρ=>rfl),
   zi c2 p2 rfl (fun ρ=>rfl) (fun ρ=>yF thA),
   zi c3 p3 rfl (fun ρ=>jg rfl thA) (fun ρ=>rfl),
   trivial⟩,
  zn trivial,fun ρ=>rfl,fun ρ=>rfl⟩⟩
theorem zr5 (s:SS TT f Q P c) (ht:TT t):zK PP cR 57 [.int .i64 t,.int .i64 0] f (.tuple #[]) (zeq f t 0):=by
 have zr:=s.run t ht
 unfold zeq zb4 zdm
 cases hq:(za f t).q with
 | true=>
  have hc:t≠c:=fun e=>by
   have:=s.nc (e ▸ ht)
   rw[<- e,hq]at this;cases this
  have hs:(za f t).st=1:=by rw[s.st ht];exact zr.2 (.inr hq)
  rw[if_neg (show ¬ f 1=(t:Int) by rw[s.cur];omega),if_pos rfl]
  exact zsf s ht hs hq hc
 | false=>
  rw[if_neg (show ¬ false=true by simp)]
  by_cases hc:t=c
  ·rw[if_pos (show f 1=(t:Int) by rw[s.cur,hc])]
   by_cases hs:(za f t).st=1
   ·exact zsd s ht hs hq hc
   ·exact zr9 s ht hs hq hc
  ·rw[if_neg (show ¬ f 1=(t:Int) by rw[s.cur];omega)]
   by_cases hs:(za f t).st=1
   ·exact zsb s ht hs hq hc
   ·exact zr7 s ht hs hq hc
end Go.Ev.X
end
