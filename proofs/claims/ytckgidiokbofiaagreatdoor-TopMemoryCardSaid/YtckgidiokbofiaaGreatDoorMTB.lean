import Derived.Test.YtckgidiokbofiaaGreatDoorMSD
import Derived.Test.YtckgidiokbofiaaGreatDoorME7
import Derived.Test.YtckgidiokbofiaaGreatDoorME4
import Derived.Test.YtckgidiokbofiaaGreatDoorME5
set_option linter.unusedSimpArgs false
set_option linter.unusedVariables false
set_option maxRecDepth 100000
noncomputable section
namespace Go.Ev.X
open Go Go.Ev Go.Proofs
variable {E:Env}
def si (n:Nat):V:=.si .i64 (.v n)
def zba:Nat->Nat->List V
 | _,0=>[]
 | b,n+1=>si b::zba (Nat.succ b) n
def cel (b:Nat):List V:=zba b 32
theorem zcC:∀ (n b:Nat),bdL 1 (zba b n)
 | 0,_=>trivial
 | n+1,b=>⟨trivial,zcC n _⟩
theorem zcm (b:Nat):bdL 1 (cel b):=zcC 32 b
def lnF (g:Nat->Int):Nat->Nat->List Value
 | _,0=>[]
 | i,n+1=>.int .i64 (g i)::lnF g (i+1) n
def baP (p:Nat):Nat:=Nat.add 1200 (Nat.mul 16 p)
def LnOk (g:Nat->Int) (i:Nat):Prop:=(g (4*i)=0/\g (4*i+1)=0/\g (4*i+2)=0/\g (4*i+3)=0)\/∃ p:Nat,p<8/\g (4*i)=8/\g (4*i+1)=p/\g (4*i+2)=(baP p:Nat)/\g (4*i+3)=3
def RL (g:Nat->Int):Prop:=∀ i,i<8->LnOk g i
def Hit (g:Nat->Int) (p i:Nat):Prop:=g (4*i)=8/\g (4*i+1)=(p:Int)
def lnT (i:Nat):List V:=[.i .i64 8,si (Nat.add 3000 i),si (Nat.add 3100 i),.i .i64 3]
def lnZ:List V:=[.i .i64 0,.i .i64 0,.i .i64 0,.i .i64 0]
def lnP:Nat->List Bool->List V
 | i,[]=>bc (Nat.blt i 8) (lnT i ++ zba (Nat.add 3200 (Nat.mul 4 (Nat.succ i))) (Nat.sub 28 (Nat.mul 4 i))) []
 | i,b::r=>bc b (lnT i) lnZ ++ lnP (Nat.succ i) r
def fsP:Nat->List Bool->List (SB × Bool)
 | i,[]=>bc (Nat.blt i 8) [(.cmp .eql (.v (Nat.add 3000 i)) (.v 3999),true)] []
 | i,b::r=>bc b ((.cmp .eql (.v (Nat.add 3000 i)) (.v 3999),false)::fsP (Nat.succ i) r) (fsP (Nat.succ i) r)
def atV (h:Nat):Int:=bc (Nat.blt h 8) (.ofNat h) (-1)
def ztv (p:List Bool):Nat:=zbm 303 (.ptr .h 0::[.i .i64 8,si 3999]) (hTl 133 (lnP 0 p)) ⟨fsP 0 p,[]⟩ (teK 133 (.i .i64 (atV p.length)) (lnP 0 p))
def pats:Nat->List (List Bool)
 | 0=>[[]]
 | n+1=>(pats n).map (true :: ·) ++ (pats n).map (false :: ·)
theorem ztO:∀ p:List Bool,p∈pats p.length
 | []=>by simp[pats]
 | b::r=>by
  have:=ztO r
  show b::r∈(pats r.length).map (true :: ·) ++ (pats r.length).map (false :: ·)
  cases b
  ·exact List.mem_append.2 (.inr (List.mem_map.2 ⟨r,this,rfl⟩))
  ·exact List.mem_append.2 (.inl (List.mem_map.2 ⟨r,this,rfl⟩))
theorem at_run:yP (fun n=>yP (fun p=>bc (Nat.beq (ztv p) 0) (zbe .h (lnP 0 p)) false) (pats n)) (rng 9)=true:=by decide +kernel
theorem ev_run:yP (fun n=>Nat.beq (zbm 141 (.ptr .h 0::[.i .i64 (.ofNat n)]) (hTl 133 (cel 2000)) ⟨[],[]⟩ (teK 133 (.i .i64 0) (zba 2000 (Nat.mul 4 n) ++ (lnZ ++ zba (Nat.add 2004 (Nat.mul 4 n)) (Nat.sub 28 (Nat.mul 4 n)))))) 0) (rng 8)=true:=by decide +kernel
def atE (b p h:Nat):TE:=⟨303,[.i .i64 8,.i .i64 (.ofNat p)],cel b,.i .i64 (atV h),cel b⟩
def fdV (h:Nat):V:=bc (Nat.blt h 8) (.tup [si (Nat.add 2102 (Nat.mul 4 h)),si (Nat.add 2103 (Nat.mul 4 h)),.b true]) (.tup [.i .i64 0,.i .i64 0,.b false])
def lnA (p:Nat):List V:=[.i .i64 8,.i .i64 (.ofNat p),.i .i64 (.ofNat (baP p)),.i .i64 3]
def cAt (p h:Nat):zy:=zbb cx1 0 (tlT 133 [atE 2100 p h] zbm)
theorem fd_run:yP (fun p=>yP (fun h=>Nat.beq (cAt p h 278 (.ptr .h 0::[.i .i64 8,.i .i64 (.ofNat p)]) (hTl 133 (cel 2100)) ⟨[],[]⟩ (teK 133 (fdV h) (cel 2100))) 0) (rng 9)) (rng 8)=true:=by decide +kernel
theorem fi_run:yP (fun p=>yP (fun n=>Nat.beq (cAt p 8 280 (.ptr .h 0::[.agg (lnA p),.i .i64 (.ofNat n)]) (hTl 133 (cel 2100)) ⟨[],[]⟩ (teK 133 (.i .i64 0) (zba 2100 (Nat.mul 4 n) ++ (lnA p ++ zba (Nat.add 2104 (Nat.mul 4 n)) (Nat.sub 28 (Nat.mul 4 n)))))) 0) (rng 8)) (rng 8)=true:=by decide +kernel
end Go.Ev.X
end
