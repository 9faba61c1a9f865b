import Derived.Test.YtcohamkngfehlaaGreatDoorE5
set_option linter.unusedSimpArgs false
set_option linter.unusedVariables false
noncomputable section
namespace Go.Ev
open Go
variable {E:Env} {P:Program}
def rdS (a:Nat):Sm:=⟨[.one (.i .i64 (.ofNat a))],[(a,100)],[],.tup [.one (.s .u64 (.v 100)),.one (.i .i64 0)],[],1⟩
def loF1 (c:SB × Bool) (e:SE):Option Nat:=match c with
 | (.cmp .geq a (.lit (.ofNat n)),true)=>bc (SE.beq a e) (some n) none
 | _=>none
def loF:List (SB × Bool)->SE->Option Nat
 | [],_=>none
 | c::r,e=>match loF1 c e with
  | some n=>some n
  | none=>loF r e
theorem loF1_ok {c:SB × Bool} {e:SE} {n:Nat} (hc:SB.den E c.1=c.2) (h:loF1 c e=some n):(n:Int)<=e.den E:=by
 obtain⟨c,b⟩:=c
 cases c with
 | cmp o a x=>
  cases o <;> first | (cases h;done) | skip
  cases b
  ·cases x <;> first | (cases h;done) | (rename_i z;cases z <;> cases h)
  cases x <;> first | (cases h;done) | skip
  rename_i z
  cases z <;> first | (cases h;done) | skip
  rename_i m
  have h:bc (SE.beq a e) (some m) none=some n:=h
  cases hb:SE.beq a e with
  | true=>
   rw[hb]at h
   have h:some m=some n:=h
   cases h
   rw[<- SE.beq_eq hb]
   have h3:iLe (n:Int) (a.den E)=true:=hc
   rw[zbu]at h3
   exact of_decide_eq_true h3
  | false=>rw[hb]at h;cases h
 | _=>cases h
theorem loF_ok {e:SE} {n:Nat}:∀ (l:List (SB × Bool)),(∀ c∈l,SB.den E c.1=c.2)->loF l e=some n->(n:Int)<=e.den E
 | [],_,h=>by cases h
 | c::r,hl,h=>by
  have h:(match loF1 c e with
   | some n=>some n
   | none=>loF r e)=some n:=h
  cases h1:loF1 c e with
  | some m=>
   rw[h1]at h
   have h:some m=some n:=h
   cases h
   exact loF1_ok (hl c (List.mem_cons_self ..)) h1
  | none=>
   rw[h1]at h
   exact loF_ok r (fun c hc=>hl c (List.mem_cons_of_mem _ hc)) h
def upF1 (c:SB × Bool) (e:SE):Option Nat:=match c with
 | (.cmp .leq a (.lit (.ofNat n)),true)=>bc (SE.beq a e) (some n) none
 | _=>none
def upF:List (SB × Bool)->SE->Option Nat
 | [],_=>none
 | c::r,e=>match upF1 c e with
  | some n=>some n
  | none=>upF r e
theorem upF1_ok {c:SB × Bool} {e:SE} {n:Nat} (hc:SB.den E c.1=c.2) (h:upF1 c e=some n):e.den E<=(n:Int):=by
 obtain⟨c,b⟩:=c
 cases c with
 | cmp o a x=>
  cases o <;> first | (cases h;done) | skip
  cases b
  ·cases x <;> first | (cases h;done) | (rename_i z;cases z <;> cases h)
  cases x <;> first | (cases h;done) | skip
  rename_i z
  cases z <;> first | (cases h;done) | skip
  rename_i m
  have h:bc (SE.beq a e) (some m) none=some n:=h
  cases hb:SE.beq a e with
  | true=>
   rw[hb]at h
   have h:some m=some n:=h
   cases h
   rw[<- SE.beq_eq hb]
   have h3:iLe (a.den E) (n:Int)=true:=hc
   rw[zbu]at h3
   exact of_decide_eq_true h3
  | false=>rw[hb]at h;cases h
 | _=>cases h
theorem upF_ok {e:SE} {n:Nat}:∀ (l:List (SB × Bool)),(∀ c∈l,SB.den E c.1=c.2)->upF l e=some n->e.den E<=(n:Int)
 | [],_,h=>by cases h
 | c::r,hl,h=>by
  have h:(match upF1 c e with
   | some n=>some n
   | none=>upF r e)=some n:=h
  cases h1:upF1 c e with
  | some m=>
   rw[h1]at h
   have h:some m=some n:=h
   cases h
   exact upF1_ok (hl c (List.mem_cons_self ..)) h1
  | none=>
   rw[h1]at h
   exact upF_ok r (fun c hc=>hl c (List.mem_cons_of_mem _ hc)) h
def rdO1 (c:MC) (h:H) (fa:Fa) (id:Ev.P) (n:Nat) (st:SE):Option (Ev.P × O × O):=match h.t.get id with
 | some oi=>arrO oi (fun ta _ d z tr=>some (id,.cells c.tM [.sl id 0 n n,stO fa st 1],.arr ta n 13 z tr)) none
 | none=>none
def rdO (c:MC) (h:H) (fa:Fa) (m:Ev.P):Option (Ev.P × O × O):=match h.t.get m with
 | some o=>memO o (fun _ id n _ st=>rdO1 c h fa id n st) none
 | none=>none
theorem rdS_in {c:MC} {a:Nat} {h:H} {fa:Fa} {m id:Ev.P} {tm n n':Nat} {st:SE} {x:AR}
  (ha:bc (Nat.beq tm c.tM && Nat.beq n c.N && Nat.beq n' c.N && zbX h id) (oc (yg h id) (fun oi=>arrO oi (fun ta n2 d z tr=>
   bc (Nat.beq ta c.tA && Nat.beq n2 c.N && Nat.beq d 13) (oc (mtL paA (rdS a).l [.i .i64 (.ofNat a)] [(5,st)]) (fun σ=>oc (rdT z tr (rdS a).rd σ) (fun σ=>(rdS a).app2 c fa m id ta n z tr st σ) none) none) none) none) none) none=some x) :
  rdO1 c h fa id n st=some (x.id,x.om,x.oi)/\x.m=m:=by
 obtain⟨_,ha5⟩:=za9 ha
 obtain⟨oi0,hoi,ha6⟩:=y7 ha5
 rw[zD]at hoi
 obtain⟨ta,n2,d,z,tr,e4,ha7⟩:=znm ha6
 obtain⟨_,ha8⟩:=za9 ha7
 obtain⟨σ1,hσ1,ha9⟩:=y7 ha8
 obtain⟨σ,hσ2,hb0⟩:=y7 ha9
 unfold Sm.app2 at hb0
 obtain⟨hcn,hb1⟩:=za9 hb0
 obtain⟨v,hv,hb2⟩:=y7 hb1
 obtain⟨tr',htr',hb3⟩:=y7 hb2
 have htr':some tr=some tr':=htr'
 cases htr'
 have hb4:=Option.some.inj hb3
 subst hb4
 subst e4
 unfold rdO1
 rw[hoi]
 exact⟨rfl,rfl⟩
theorem zmH {c:MC} {a:Nat} {m:Ev.P} {h:H} {fa:Fa} {x:AR} (ha:(rdS a).app c [.ptr m 0,.i .i64 (.ofNat a)] h fa=some x):rdO c h fa m=some (x.id,x.om,x.oi)/\x.m=m:=by
 have ha1:(rdS a).app1 c h fa [.i .i64 (.ofNat a)] m=some x:=ha
 unfold Sm.app1 at ha1
 obtain⟨_,ha2⟩:=za9 ha1
 obtain⟨om0,hom,ha3⟩:=y7 ha2
 rw[zD]at hom
 unfold rdO
 rw[hom]
 show memO om0 (fun _ id n _ st=>rdO1 c h fa id n st) none=some (x.id,x.om,x.oi)/\x.m=m
 unfold memO at ha3
 split at ha3
 ·exact rdS_in ha3
 ·exact rdS_in ha3
 ·cases ha3
def rdAll (c:MC) (L:Nat->Bool) (m:Ev.P) (h:H) (fa:Fa) (v:V) (l:List Nat):Bool:=
 y6 (fun a=>bc (L a) (oc ((rdS a).app c [.ptr m 0,.i .i64 (.ofNat a)] h fa) (fun y=>V.beq v y.v) false) false) l
def rdGo (c:MC) (L:Nat->Bool) (m:Ev.P) (e:SE) (h:H) (fa:Fa) (k:K):Nat:=
 oc (loF fa.l e) (fun lo=>oc (upF fa.l e) (fun hi=>oc ((rdS lo).app c [.ptr m 0,.i .i64 (.ofNat lo)] h fa) (fun x=>bc (rdAll c L m h fa x.v (rngF lo (hi+1 - lo)))
  (x.go (fun m id om oi v=>hc h (fun n lo t=>zaD m t om (fun t=>zaD id t oi (fun t=>k v ⟨n,lo,t⟩ fa))))) 1) 1) 1) 1
def rdX (c:MC) (L:Nat->Bool) (F:Nat) (call:zr):List V->H->Fa->K->Nat:=fun l h fa k=>match l with
 | [.ptr m o,.si kd e]=>bc (Nat.beq o 0) (bc (kEq kd .i64) (rdGo c L m e h fa k) 1) 1
 | l=>call F l h fa k
theorem rdGo_ok {c:MC} {L:Nat->Bool} {F:Nat} {zd:zr} (hcall0:∀ E':Env,(∀ q,q≠7->E'.s q=E.s q)->ze E' P zd)
  (hs:∀ a,L a=true->zab c F zd [rdS a]) {m:Ev.P} {e:SE} {h:H} {fa:Fa} {k:K} (hk:rdGo c L m e h fa k=0) (hfa:FaOk E fa) :
  yE P F/\∃ v h' fa',k v h' fa'=0/\FaOk E fa' /\
   ∀ ρ w,bdL h.n.toNat [.ptr m 0,.si .i64 e]->Sat E ρ h w->Calls P F (γL E ρ [.ptr m 0,.si .i64 e]).toArray w fun e w'=>∃ ρ',e=.returned (v.γ E ρ')/\Sat E ρ' h' w'/\Ext ρ h w ρ' h' w'/\v.bd h'.n.toNat:=by
 unfold rdGo at hk
 obtain⟨lo,hlo,hk⟩:=zo hk (by simp)
 obtain⟨hi,hhi,hk⟩:=zo hk (by simp)
 obtain⟨x,hx,hk⟩:=zo hk (by simp)
 obtain⟨hall,hk⟩:=zk hk (by simp)
 have b1:=loF_ok _ (fun c hc=>hfa.l c.1 c.2 hc) hlo
 have b2:=upF_ok _ (fun c hc=>hfa.l c.1 c.2 hc) hhi
 obtain⟨a,ha⟩:=Int.eq_ofNat_of_zero_le (show 0<=e.den E by omega)
 have hm:=zba hall a (zeS (by omega) (by omega))
 obtain⟨hL,hm⟩:L a=true/\oc ((rdS a).app c [.ptr m 0,.i .i64 (.ofNat a)] h fa) (fun y=>V.beq x.v y.v) false=true:=by
  cases hL:L a with
  | true=>rw[hL]at hm;exact⟨rfl,hm⟩
  | false=>rw[hL]at hm;cases hm
 cases hy:(rdS a).app c [.ptr m 0,.i .i64 (.ofNat a)] h fa with
 | none=>rw[hy]at hm;cases hm
 | some y=>
  rw[hy]at hm
  have hv:x.v=y.v:=V.beq_ok hm
  obtain⟨x1,x2⟩:=zmH hx
  obtain⟨y1,y2⟩:=zmH hy
  have hxy:x=y:=by
   rw[y1]at x1
   injection x1 with x1
   injection x1 with x3 x4
   injection x4 with x4 x5
   cases x;cases y
   simp only at hv x2 y2 x3 x4 x5
   subst hv x2 y2 x3 x4 x5
   rfl
  subst hxy
  obtain⟨g1,g2,g3⟩:=hs a hL _ (List.mem_cons_self ..)
  obtain⟨hca,hbv,hrun⟩:=Sm.app_run hcall0 g1 g2 g3 hy hfa
  cases x with
  | mk m' id om oi v=>
  have hk:hc h (fun n lo t=>zaD m' t om (fun t=>zaD id t oi (fun t=>k v ⟨n,lo,t⟩ fa)))=0:=hk
  rw[zae,zat,zat]at hk
  refine⟨hca,v,h.two m' id om oi,fa,hk,hfa,fun ρ w hb hs=>?_⟩
  have hargs:γL E ρ [.ptr m 0,.si .i64 e]=γL E ρ [.ptr m 0,.i .i64 (.ofNat a)]:=by
   simp only[γL,V.γ,ha]
   rfl
  rw[hargs]
  refine(hrun ρ w hs).mono ?_
  rintro e w' ⟨he,hs',hx'⟩
  exact⟨ρ,he,hs',hx',bd_mono (Nat.zero_le _) v hbv⟩
theorem rdX_ok {c:MC} {L:Nat->Bool} {F:Nat} {zd call:zr} (hcall0:∀ E':Env,(∀ q,q≠7->E'.s q=E.s q)->ze E' P zd) (hcall:ze E P call)
  (hs:∀ a,L a=true->zab c F zd [rdS a]):ze E P (fun G l h fa k=>bc (Nat.beq G F) (rdX c L F call l h fa k) 1):=by
 intro G l h fa k hk hfa
 obtain⟨hG,hk⟩:=zk (show bc (Nat.beq G F) (rdX c L F call l h fa k) 1=0 from hk) (by simp)
 have hG:G=F:=by simpa using hG
 subst hG
 unfold rdX at hk
 split at hk
 ·rename_i m o kd e hk0
  obtain⟨h1,hk⟩:=zk hk (by simp)
  obtain⟨h2,hk⟩:=zk hk (by simp)
  have h1:o=0:=by simpa using h1
  have h2:=yC h2
  subst h1;subst h2
  exact rdGo_ok hcall0 hs hk hfa
 ·exact hcall _ _ _ _ _ hk hfa
def inNs (i:Nat):List Nat->Bool
 | []=>false
 | a::r=>bc (Nat.beq i a) true (inNs i r)
theorem zm2 {i:Nat}:∀ {l:List Nat},inNs i l=true->i∈l
 | [],h=>by cases h
 | a::r,h=>by
  have h:bc (Nat.beq i a) true (inNs i r)=true:=h
  cases e:Nat.beq i a with
  | true=>
   have e:i=a:=by simpa using e
   subst e
   exact List.mem_cons_self ..
  | false=>rw[e]at h;exact List.mem_cons_of_mem _ (zm2 h)
theorem zn7 {c:MC} {F:Nat} {zd:zr} {l:List Nat} (h:y6 (fun a=>zl c F zd [rdS a]) l=true):∀ a,inNs a l=true->zab c F zd [rdS a]:=fun a ha=>zc (zba h a (zm2 ha))
end Go.Ev
end
