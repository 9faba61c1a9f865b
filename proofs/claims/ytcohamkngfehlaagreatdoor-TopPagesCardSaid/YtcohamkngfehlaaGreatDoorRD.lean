import Derived.Test.YtcohamkngfehlaaGreatDoorAX
import Derived.Test.YtcohamkngfehlaaGreatDoorE5
import Derived.Test.YtcohamkngfehlaaGreatDoorE4
set_option linter.unusedSimpArgs false
set_option linter.unusedVariables false
set_option maxRecDepth 100000
noncomputable section
namespace Go.Ev.X
open Go Go.Ev Go.Proofs
def shF (e:SE):SE:=.op .shl .u64 (.cv .u64 e) (.lit 32)
def orF (e:SE):SE:=.op .or .u64 (.lit 0) (shF e)
def upkF (e:SE):SE:=.cv .i64 (.op .shr .u64 (.op .and .u64 (orF e) (.lit 18446744069414584320)) (.lit 32))
def comF (e:SE):List (SB × Bool):=[(.not (.cmp .neq (upkF e) e),true),(.cmp .lss e (.lit 0),false),(.cmp .neq (.op .shr .u64 (shF e) (.lit 32)) (.cv .u64 e),false),
 (.cmp .eql (.op .andNot .u64 (shF e) (.lit 18446744069414584320)) (.lit 0),true),(.cmp .eql (.op .shr .u64 (orF e) (.lit 64)) (.lit 0),true),(.cmp .eql (.op .and .u64 (orF e) (.lit 4294967295)) (.lit 0),true)]
def shP (s:Int):SE:=.op .shr .i64 (.v 1) (.lit s)
def adP (T s:Int):SE:=.op .add .i64 (.lit T) (.op .and .i64 (shP s) (.lit 7))
def bdP (T s:Int) (lo:Nat):List (SB × Bool):=[(.cmp .geq (adP T s) (.lit (.ofNat lo)),true),(.cmp .leq (adP T s) (.lit (T+7)),true)]
def zP (s:Int):SB × Bool:=(.cmp .eql (shP s) (.lit 0),true)
def baseP:List (SB × Bool):=comF (.v 1) ++ [(.cmp .geq (.v 1) (.lit 0),true),(.cmp .lss (.v 1) (.lit 65536),true),(.cmp .leq (.v 1) (.lit 65535),true),(.cmp .eql (.op .rem .i64 (.v 1) (.lit 1)) (.lit 0),true)]
def ltP (n:Nat) (b:Bool):SB × Bool:=(.cmp .lss (.v 1) (.lit (.ofNat (16*n))),b)
def lvP (n c:Nat):List (SB × Bool):=bc (Nat.beq c 0) [ltP n true] (bc (Nat.beq c 1) (ltP n false::bdP 1160 13 1161) (bc (Nat.beq c 2) (ltP n false::zP 13::bdP 1168 10 1169) (bc (Nat.beq c 3) (ltP n false::zP 13::zP 10::bdP 1176 7 1177)
 (ltP n false::zP 13::zP 10::zP 7::bc (Nat.beq n 7) [(.cmp .eql (shP 4) (.lit 7),true),(.cmp .eql (.op .quo .i64 (.v 1) (.lit 16)) (.lit 7),true)] (bdP 1184 4 (1184+n))))))
def fP (n c:Nat):List (SB × Bool):=baseP ++ bc (Nat.beq n 0) [] (lvP n c)
def okC (n c:Nat):Prop:=n<=8/\c<=4/\(n=0->c=0)/\(n=8->c<=3)
def envU (a r b:Int):Env:=⟨fun i=>bc (Nat.beq i 0) a (bc (Nat.beq i 1) r b),fun _=>false,fun _=>⟨0,0,0,0,0,0,0,#[],(0,0)⟩⟩
section
variable {E:Env}
theorem zmU (a:Nat) (h:a<4294967296):Nat.land (a*4294967296) 18446744069414584320=a*4294967296:=by
 have h1:a*4294967296=a <<< 32:=by rw[Nat.shiftLeft_eq]
 have h2:(18446744069414584320:Nat)=4294967295 <<< 32:=by rw[Nat.shiftLeft_eq]
 rw[h1,h2]
 have h3:=(Nat.shiftLeft_and_distrib (a:=a) (b:=4294967295) (i:=32)).symm
 refine Eq.trans h3 ?_
 have h4:a &&& 4294967295=a:=by
  rw[show (4294967295:Nat)=2 ^ 32 - 1 from rfl,Nat.and_two_pow_sub_one_eq_mod]
  exact Nat.mod_eq_of_lt h
 rw[h4]
theorem zfk (x y:Nat) (hx:x<18446744073709551616) (hy:y<18446744073709551616):arS .andNot .u64 (x:Int) (y:Int)=((Nat.xor x (Nat.land x y):Nat):Int):=by
 have h1:Nat.blt x (z5 .u64)=true:=by simp[z5];omega
 have h2:Nat.blt y (z5 .u64)=true:=by simp[z5];omega
 show zdh .u64 (fun a b=>Nat.xor a (Nat.land a b)) (fun a b=>a &&& ~~~b) (.ofNat x) (.ofNat y)=_
 show bc (Nat.blt x (z5 .u64)) (bc (Nat.blt y (z5 .u64)) (Int.ofNat (Nat.xor x (Nat.land x y))) _) _=_
 rw[h1,h2];rfl
section
variable {e:SE} {x:Int} (hx:e.den E=x) (h0:0<=x) (h1:x<4294967296)
include hx h0 h1
theorem cv_u:SE.den E (.cv .u64 e)=x:=by
 show IntKind.wrap .u64 (e.den E)=x
 rw[hx,IntKind.wrap_u64];omega
theorem sh_u:SE.den E (shF e)=x*4294967296:=by
 show arS .shl .u64 (SE.den E (.cv .u64 e)) ((32:Nat):Int)=_
 rw[cv_u hx h0 h1,shl_val 32 (by omega) h0 (by omega)]
 rfl
theorem or_u:SE.den E (orF e)=x*4294967296:=by
 show arS .or .u64 0 (SE.den E (shF e))=_
 rw[sh_u hx h0 h1,or_add 64 0 (by simp) (by omega) (by omega) (by omega) (by omega) (by omega)]
 omega
theorem un_u:SE.den E (upkF e)=x:=by
 show IntKind.wrap .i64 (arS .shr .u64 (arS .and .u64 (SE.den E (orF e)) 18446744069414584320) ((32:Nat):Int))=x
 rw[or_u hx h0 h1]
 have hi:arS .and .u64 (x*4294967296) 18446744069414584320=x*4294967296:=by
  obtain⟨n,rfl⟩:=Int.eq_ofNat_of_zero_le h0
  have e1:(n:Int)*4294967296=((n*4294967296:Nat):Int):=by simp
  rw[e1]
  refine(znn (n*4294967296) 18446744069414584320 (by omega) (by omega)).trans ?_
  rw[zmU n (by omega)]
 rw[hi,zgs 32 (by omega) (by omega),IntKind.wrap_i64]
 have:x*4294967296 / 2 ^ 32=x:=by omega
 rw[this];omega
theorem com_ok:∀ c∈comF e,SB.den E c.1=c.2:=by
 unfold comF
 simp only[List.mem_cons,List.not_mem_nil,or_false,forall_eq_or_imp,forall_eq]
 refine⟨?_,?_,?_,?_,?_,?_⟩
 ·show (!(!iEq (SE.den E (upkF e)) (e.den E)))=true
  rw[un_u hx h0 h1,hx,yV]
  simp
 ·show iLt (e.den E) 0=false
  rw[hx,zbc]
  exact decide_eq_false (by omega)
 ·have a:SE.den E (.op .shr .u64 (shF e) (.lit 32))=x:=by
   show arS .shr .u64 (SE.den E (shF e)) ((32:Nat):Int)=x
   rw[sh_u hx h0 h1,zgs 32 (by omega) (by omega)]
   omega
  show (!iEq (SE.den E (.op .shr .u64 (shF e) (.lit 32))) (SE.den E (.cv .u64 e)))=false
  rw[a,cv_u hx h0 h1,yV]
  simp
 ·show iEq (arS .andNot .u64 (SE.den E (shF e)) 18446744069414584320) 0=true
  rw[sh_u hx h0 h1]
  obtain⟨n,rfl⟩:=Int.eq_ofNat_of_zero_le h0
  have e1:(n:Int)*4294967296=((n*4294967296:Nat):Int):=by simp
  rw[e1]
  rw[show (18446744069414584320:Int)=((18446744069414584320:Nat):Int) from rfl,zfk (n*4294967296) 18446744069414584320 (by omega) (by omega),zmU n (by omega)]
  have:Nat.xor (n*4294967296) (n*4294967296)=0:=Nat.xor_self _
  rw[this];rfl
 ·show iEq (arS .shr .u64 (SE.den E (orF e)) ((64:Nat):Int)) 0=true
  rw[or_u hx h0 h1,zgs 64 (by omega) (by omega),yV]
  exact decide_eq_true (by omega)
 ·show iEq (arS .and .u64 (SE.den E (orF e)) 4294967295) 0=true
  rw[or_u hx h0 h1,zr3 (m:=4294967295) 32 (by decide) (by omega) (by omega) (by omega),yV]
  exact decide_eq_true (by omega)
end
theorem and7 {x:Int} (h0:0<=x) (h1:x<65536):arS .and .i64 x 7=x % 8:=by
 obtain⟨n,rfl⟩:=Int.eq_ofNat_of_zero_le h0
 have e1:Nat.blt n (z5 .i64)=true:=by simp[z5];omega
 have e2:Nat.blt 7 (z5 .i64)=true:=rfl
 show bc (Nat.blt n (z5 .i64)) (bc (Nat.blt 7 (z5 .i64)) (Int.ofNat (Nat.land n 7)) _) _=_
 rw[e1,e2]
 show ((Nat.land n 7:Nat):Int)=_
 have:Nat.land n 7=n % 8:=Nat.and_two_pow_sub_one_eq_mod n 3
 rw[this];omega
theorem shr64 {x:Int} (n:Nat) (hn:n<=64) (h0:0<=x):arS .shr .i64 x (n:Int)=x / 2 ^ n:=by
 show (shI .shr .i64 x n).getD 0=_
 have:min ((n:Int)).toNat (IntKind.bits .i64)=n:=by
  show min n 64=n
  omega
 simp only[shI,this,Option.getD_some]
 rw[Int.fdiv_eq_ediv_of_nonneg _ (by have:(0:Int)<2 ^ n:=Int.pow_pos (by omega);omega)]
theorem geP {e:SE} {x:Int} {n:Int} (hx:e.den E=x) (h:n<=x):SB.den E (.cmp .geq e (.lit n))=true:=by
 show iLe n (e.den E)=true
 rw[hx,zbu];exact decide_eq_true h
theorem leP {e:SE} {x:Int} {n:Int} (hx:e.den E=x) (h:x<=n):SB.den E (.cmp .leq e (.lit n))=true:=by
 show iLe (e.den E) n=true
 rw[hx,zbu];exact decide_eq_true h
theorem eqP {e:SE} {x:Int} (hx:e.den E=x):SB.den E (.cmp .eql e (.lit x))=true:=by
 show iEq (e.den E) x=true
 rw[hx,yV];exact decide_eq_true rfl
theorem shP_v (h0:0<=E.i 1) (s:Nat) (hs:s<=64):(shP s).den E=E.i 1 / 2 ^ s:=shr64 s hs h0
theorem adP_v (h0:0<=E.i 1) (h1:E.i 1<65536) (T:Int) (hT:0<=T/\T<65536) (s:Nat) (hs:s<=64) (y:Int) (hy:E.i 1 / 2 ^ s=y) (y0:0<=y) (y1:y<8):(adP T s).den E=T+y:=by
 show jx .i64 (T+arS .and .i64 ((shP s).den E) 7)=_
 rw[shP_v h0 s hs,hy,and7 y0 (by omega),zY,IntKind.wrap_i64]
 omega
theorem zhe (h0:0<=E.i 1) (h1:E.i 1<65536) {T:Nat} (hT:T<65536) {s:Nat} (hs:s<=64) {y:Int} (hy:E.i 1 / 2 ^ s=y) {d:Nat} (y0:(d:Int)<=y) (y1:y<8):∀ c∈bdP T s (T+d),SB.den E c.1=c.2:=by
 have ha:=adP_v h0 h1 T (by omega) s hs y hy (by omega) y1
 unfold bdP
 simp only[List.mem_cons,List.not_mem_nil,or_false,forall_eq_or_imp,forall_eq]
 exact⟨geP ha (by show ((T+d:Nat):Int)<=_;omega),leP ha (by omega)⟩
theorem zP_ok (h0:0<=E.i 1) {s:Nat} (hs:s<=64) (hy:E.i 1 / 2 ^ s=0):SB.den E (zP s).1=(zP s).2:=eqP ((shP_v h0 s hs).trans hy)
theorem jd {c:SB × Bool} {l:List (SB × Bool)} (h:SB.den E c.1=c.2) (hl:∀ c∈l,SB.den E c.1=c.2):∀ d∈c::l,SB.den E d.1=d.2:=fun d hd=>(List.mem_cons.1 hd).elim (fun e=>e ▸ h) (hl d)
theorem zrQ (h0:0<=E.i 1) (h1:E.i 1<65536):∀ c∈baseP,SB.den E c.1=c.2:=by
 refine zhi (com_ok (e:=.v 1) (x:=E.i 1) rfl h0 (by omega)) ?_
 simp only[List.mem_cons,List.not_mem_nil,or_false,forall_eq_or_imp,forall_eq]
 refine⟨geP rfl h0,sb_lt rfl rfl (decide_eq_true h1),leP rfl (by show E.i 1<=65535;omega),eqP ?_⟩
 show (E.i 1).tmod 1=0
 exact Int.tmod_one _
theorem fP_all {n:Nat} (hn:n<9) (h0:0<=E.i 1) (h1:E.i 1<65536):∃ c,okC n c/\∀ f∈fP n c,SB.den E f.1=f.2:=by
 have hb:=zrQ h0 h1
 by_cases n0:n=0
 ·subst n0
  exact⟨0,⟨by omega,by omega,fun _=>rfl,fun h=>by omega⟩,zhi hb (fun c hc=>by cases hc)⟩
 have go:∀ c,okC n c->(∀ f∈lvP n c,SB.den E f.1=f.2)->∃ c,okC n c/\∀ f∈fP n c,SB.den E f.1=f.2:=by
  intro c hc hl
  refine⟨c,hc,zhi hb ?_⟩
  have:Nat.beq n 0=false:=by rw[Bool.eq_false_iff];simpa using n0
  rw[this];exact hl
 have lt:∀ b,decide (E.i 1<((16*n:Nat):Int))=b->SB.den E (ltP n b).1=(ltP n b).2:=fun b hb=>sb_lt rfl rfl hb
 by_cases c0:E.i 1<((16*n:Nat):Int)
 ·exact go 0 ⟨by omega,by omega,fun _=>rfl,fun _=>by omega⟩ (jd (lt true (decide_eq_true c0)) (fun c hc=>by cases hc))
 have nl:=lt false (decide_eq_false c0)
 by_cases c1:8192<=E.i 1
 ·exact go 1 ⟨by omega,by omega,fun h=>by omega,fun _=>by omega⟩ (jd nl (zhe h0 h1 (T:=1160) (by omega) (s:=13) (by omega) (y:=E.i 1 / 8192) rfl (d:=1) (by omega) (by omega)))
 have z13:=zP_ok h0 (s:=13) (by omega) (by show E.i 1 / 8192=0;omega)
 by_cases c2:1024<=E.i 1
 ·exact go 2 ⟨by omega,by omega,fun h=>by omega,fun _=>by omega⟩ (jd nl (jd z13 (zhe h0 h1 (T:=1168) (by omega) (s:=10) (by omega) (y:=E.i 1 / 1024) rfl (d:=1) (by omega) (by omega))))
 have z10:=zP_ok h0 (s:=10) (by omega) (by show E.i 1 / 1024=0;omega)
 by_cases c3:128<=E.i 1
 ·exact go 3 ⟨by omega,by omega,fun h=>by omega,fun _=>by omega⟩ (jd nl (jd z13 (jd z10 (zhe h0 h1 (T:=1176) (by omega) (s:=7) (by omega) (y:=E.i 1 / 128) rfl (d:=1) (by omega) (by omega)))))
 have z7:=zP_ok h0 (s:=7) (by omega) (by show E.i 1 / 128=0;omega)
 refine go 4 ⟨by omega,by omega,fun h=>by omega,fun h=>by omega⟩ (jd nl (jd z13 (jd z10 (jd z7 ?_))))
 by_cases n7:n=7
 ·subst n7
  have e:E.i 1 / 16=7:=by omega
  refine jd (eqP ((shP_v h0 4 (by omega)).trans e)) (jd (eqP ?_) (fun c hc=>by cases hc))
  show jx .i64 ((E.i 1).tdiv 16)=7
  rw[Int.tdiv_eq_ediv_of_nonneg h0,e];rfl
 ·have:Nat.beq n 7=false:=by rw[Bool.eq_false_iff];simpa using n7
  rw[this]
  exact zhe h0 h1 (T:=1184) (by omega) (s:=4) (by omega) (y:=E.i 1 / 16) rfl (d:=n) (by omega) (by omega)
end
def bP (n:Nat):zr:=zkm 10 [.si .i64 (.v 0),.i .i64 9] (.i .i64 (.ofNat n)) (zkm 10 [.si .i64 (.v 2),.i .i64 65536] (.si .i64 (.v 1)) callA)
def argsP (b:Bool):List V:=[.si .i64 (.v 0),.si .i64 (.v 2),.b b]
def zR (n c:Nat) (b:Bool):Nat:=za8 cx1 0 (bP n) 3 (argsP b) ⟨.h,.h,.e⟩ ⟨fP n c,[]⟩ endB
theorem pk9_0:za8 cx1 0 zb2 10 [.si .i64 (.v 0),.i .i64 9] ⟨.h,.h,.e⟩ ⟨[(.cmp .lss (.v 0) (.lit 0),false)],[]⟩ (zg9 (.si .i64 (.op .rem .i64 (.v 0) (.lit 9))))=0:=by decide +kernel
theorem pk9_1:za8 cx1 0 zb2 10 [.si .i64 (.v 0),.i .i64 9] ⟨.h,.h,.e⟩ ⟨[(.cmp .lss (.v 0) (.lit 0),true)],[]⟩ (zg9 (.si .i64 (.op .rem .i64 (.op .sub .i64 (.lit 0) (.op .add .i64 (.v 0) (.lit 1))) (.lit 9))))=0:=by decide +kernel
theorem zn9:za8 cx1 0 zb2 10 [.si .i64 (.v 0),.i .i64 65536] ⟨.h,.h,.e⟩ ⟨[(.cmp .lss (.v 0) (.lit 0),false)],[]⟩ (zg9 (.si .i64 (.op .rem .i64 (.v 0) (.lit 65536))))=0:=by decide +kernel
theorem zn8:za8 cx1 0 zb2 10 [.si .i64 (.v 0),.i .i64 65536] ⟨.h,.h,.e⟩ ⟨[(.cmp .lss (.v 0) (.lit 0),true)],[]⟩ (zg9 (.si .i64 (.op .rem .i64 (.op .sub .i64 (.lit 0) (.op .add .i64 (.v 0) (.lit 1))) (.lit 65536))))=0:=by decide +kernel
end Go.Ev.X
end
