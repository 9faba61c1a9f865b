import Derived.Test.YtcinokgfjdifbaaGreatAB
import Derived.Test.YtcinokgfjdifbaaGreatE5
set_option linter.unusedSimpArgs false
set_option linter.unusedVariables false
set_option maxRecDepth 100000
noncomputable section
namespace Go.Ev.X
open Go Go.Ev Go.Proofs
def q3:P:=.i q1
def q345:P:=.i q172
def q690:P:=.o q345
def q1380:P:=.o q690
def gbx:HS:=⟨q2,q2,[(q1,.o (.row 0 6 (.v 1) (.v 2) []))]⟩
def gby:HS:=⟨q1380,q2,[(q1,.o (.row 0 6 (.v 1) (.v 2) [])),(q2,.o (.arr 39 8192 13 (.i .u64 0) abt0)),(q3,.o (.cells 63 [(.sl (q2) 0 8192 8192),(.i .i64 677)])),(zho,.o (.arr 39 8192 13 (.i .u64 0) abt0)),(zl6,.o (.cells 36 [(.ptr (zi3) 0),(.ptr (q3) 0)])),(zi3,.o (.cells 96 [(.sl (zho) 0 8192 8192),(.i .i64 0)]))]⟩
def gb:MS:=⟨7,[],gbx,(.ptr (zl6) 0),gby⟩
theorem gbt:gb.run zga ⟨[],[]⟩=0:=by decide +kernel
theorem gbo:zcj (gb.h'.mk'.t.get .h) (gb.h.mk'.t.get .h)=true:=by kernel_rfl
end Go.Ev.X
end
