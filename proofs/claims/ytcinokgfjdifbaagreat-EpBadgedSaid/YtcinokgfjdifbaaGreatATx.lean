import Derived.Test.YtcinokgfjdifbaaGreatAB
set_option linter.unusedSimpArgs false
set_option linter.unusedVariables false
set_option maxRecDepth 100000
noncomputable section
namespace Go.Ev.X
open Go Go.Ev
def endB:K:=fun v _ _=>bc (V.beq v (.b true)) 0 1
def aIn0:z3:=zhy ab zga
theorem a_run0:zdG cx1 0 aIn0 6 [] ⟨.h,.h,.e⟩ ⟨[],[]⟩ endB=0:=by decide +kernel
theorem aIn0_ok {E:Env} {P:Program} (h1:zk E P zga):zk E P aIn0:=msS_ok rfl abt FaOk.nil h1 h1
end Go.Ev.X
end
set_option linter.unusedSimpArgs false
set_option linter.unusedVariables false
set_option maxRecDepth 100000
noncomputable section
namespace Go.Ev.X
open Go Go.Ev
variable {E:Env} {P:Program}
def aHook:List V->H->Fa->K->Nat:=fun l h fa k=>zaD (k (.b true) h fa) (fun _ _=>1) l
theorem zu8 (h1:CxOk E P (zX P) cx1) (h2:zk E P zga):zk E P (fun G l h fa k=>bc (Nat.beq G 6) (aHook l h fa k) 1):=lone_ok (zfP h1 0 (aIn0_ok h2)) FaOk.nil trivial a_run0
end Go.Ev.X
end
