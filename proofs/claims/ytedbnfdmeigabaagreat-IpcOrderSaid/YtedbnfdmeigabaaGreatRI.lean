/-
  Into the loops.
-/
import Derived.Test.YtedbnfdmeigabaaGreatRS
set_option linter.unusedSimpArgs false
set_option linter.unusedVariables false
set_option maxRecDepth 100000
noncomputable section
namespace Go.Ev.X
open Go Go.Ev
def inK : CallT := (memoS gb callA)
def nilK : CallT := (memoS ab callA)
def hR : H := ⟨.o .h, .o .h, (PT.e : PT O).set .h (.row 0 1 (.v 1) (.v 2) [])⟩
def argsR0 : List V := .fs .h 0 :: [.agg [.si .i64 (.v 20), .si .i64 (.v 21), .si .i64 (.v 22), .si .i64 (.v 23)], .agg [.si .u64 (.v 24), .si .u64 (.v 25), .si .u64 (.v 26), .si .u64 (.v 27)]]
def argsN0 : List V := .snil :: [.agg [.si .i64 (.v 20), .si .i64 (.v 21), .si .i64 (.v 22), .si .i64 (.v 23)], .agg [.si .u64 (.v 24), .si .u64 (.v 25), .si .u64 (.v 26), .si .u64 (.v 27)]]
theorem r_in0 : initFr argsR0 (fun fr => zIn qC.z0 ⟨inK, 4, 20000⟩ fr hR ⟨fxL, []⟩ (fun fr h fa => zIn qC.z1 ⟨inK, 4, 20000⟩ fr h fa (fun fr h _ => nextK st1 [(2 * 0, sgW kp (some (.lit 0)) (.lit 0)), (2 * 0 + 1, sgW kp (some (.lit 0)) (.lit 0))] fr h) (kLoop qC.z2 ⟨inK, 4, 20000⟩ st2 [] (zOut qC.z0 ⟨inK, 4, 20000⟩ (koB qC.rs)))) (koB qC.rs)) = 0 := by decide +kernel
theorem r_nil0 : callS cx1 0 nilK 4 argsN0 ⟨.h, .h, .e⟩ ⟨fxL, []⟩ endB = 0 := by decide +kernel
end Go.Ev.X
end
