import Derived.Test.YtckgidiokbofiaaGreatDoorMAT
set_option linter.unusedSimpArgs false
set_option linter.unusedVariables false
set_option maxRecDepth 100000
noncomputable section
namespace Go.Ev.X
open Go Go.Ev
variable {E:Env} {P:Program}
def aHook:List V->H->Fa->K->Nat:=fun l h fa k=>jM (k (.b true) h fa) (fun _ _=>1) l
theorem zBL (h1:CxOk E P (zr P) cx1) (h2:zi E P zbm):zi E P (fun G l h fa k=>bc (Nat.beq G 6) (aHook l h fa k) 1):=lone_ok (zbz h1 0 h2) FaOk.nil trivial a_run0
def zup:zy:=fun F l h fa k=>bc (Nat.beq F 6) (aHook l h fa k) (zbm F l h fa k)
theorem zuo (h1:CxOk E P (zr P) cx1) (h2:zi E P zbm):zi E P zup:=by
 intro F l h fa k hk hfa
 have hk:bc (Nat.beq F 6) (aHook l h fa k) (zbm F l h fa k)=0:=hk
 cases e:Nat.beq F 6 with
 | true=>exact zBL h1 h2 F l h fa k (by show bc (Nat.beq F 6) _ 1=0;rw[e]at hk ⊢;exact hk) hfa
 | false=>rw[e]at hk;exact h2 F l h fa k hk hfa
end Go.Ev.X
end
