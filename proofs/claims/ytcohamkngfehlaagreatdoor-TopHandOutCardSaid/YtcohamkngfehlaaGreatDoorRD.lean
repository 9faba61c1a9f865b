import Derived.Test.YtcohamkngfehlaaGreatDoorAX
import Derived.Test.YtcohamkngfehlaaGreatDoorE5
set_option linter.unusedSimpArgs false
set_option linter.unusedVariables false
set_option maxRecDepth 100000
noncomputable section
namespace Go.Ev.X
open Go Go.Ev Go.Proofs
def bK (x:Nat):zu:=znh 10 [.si .i64 (.v 0),.i .i64 30] (.i .i64 (.ofNat x)) callA
def argsB (g:Bool):List V:=[.si .i64 (.v 0),.b g]
def runB (g:Bool) (x:Nat):Nat:=zbr cx1 0 (bK x) 8 (argsB g) ⟨.h,.h,.e⟩ ⟨[],[]⟩ endB
def jH (x:Nat):Bool:=bc (Nat.beq (runB true x) 0) (Nat.beq (runB false x) 0) false
theorem pk30_0:zbr cx1 0 zcZ 10 [.si .i64 (.v 0),.i .i64 30] ⟨.h,.h,.e⟩ ⟨[(.cmp .lss (.v 0) (.lit 0),false)],[]⟩ (endV (.si .i64 (.op .rem .i64 (.v 0) (.lit 30))))=0:=by decide +kernel
theorem pk30_1:zbr cx1 0 zcZ 10 [.si .i64 (.v 0),.i .i64 30] ⟨.h,.h,.e⟩ ⟨[(.cmp .lss (.v 0) (.lit 0),true)],[]⟩ (endV (.si .i64 (.op .rem .i64 (.op .sub .i64 (.lit 0) (.op .add .i64 (.v 0) (.lit 1))) (.lit 30))))=0:=by decide +kernel
end Go.Ev.X
end
