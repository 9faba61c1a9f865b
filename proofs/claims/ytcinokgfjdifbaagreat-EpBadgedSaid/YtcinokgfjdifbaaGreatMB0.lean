import Derived.Test.YtcinokgfjdifbaaGreatSD
import Derived.Test.YtcinokgfjdifbaaGreatE6
import Derived.Test.YtcinokgfjdifbaaGreatLen
set_option linter.unusedSimpArgs false
set_option linter.unusedVariables false
set_option maxRecDepth 100000
noncomputable section
namespace Go.Ev.X
open Go Go.Ev Go.Proofs
abbrev PP:Program:=Tryz.prog
theorem zdv (E:Env):ziQ E:=fun E' _=>ztj Tryz.call135 (fun x w h0 h1=>Tryz.bits_Len64 x w h0 h1)
theorem hC0 (E:Env):CxOk E PP (zX PP) cx0:=cx0_ok (zdv E).one
theorem hcl (E:Env):zk E PP zN:=zcf (zdv E).one
def cP:MC:=⟨96,39,8192⟩
def cR:MC:=⟨63,39,8192⟩
def smK (c:MC) (F:Nat) (s:Sm):Bool:=bc (s.wf c) (Nat.beq (s.run c F zN) 0) false
theorem zbH {c:MC} {F:Nat} {s:Sm} (h:smK c F s=true):s.wf c=true/\s.run c F zN=0:=by
 have h:bc (s.wf c) (Nat.beq (s.run c F zN) 0) false=true:=h
 cases h1:s.wf c with
 | false=>rw[h1]at h;cases h
 | true=>
  rw[h1]at h
  exact⟨rfl,Nat.eq_of_beq_eq_true h⟩
def zjT:List Nat:=[1024,1088,1152,1216]
def zbE:List Bool:=[true,false]
end Go.Ev.X
end
