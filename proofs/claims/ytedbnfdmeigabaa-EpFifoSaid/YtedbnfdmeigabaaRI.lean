/-
  Into the loops.
-/
import Derived.Test.YtedbnfdmeigabaaRS
set_option linter.unusedSimpArgs false
set_option linter.unusedVariables false
set_option maxRecDepth 100000
noncomputable section
namespace Go.Ev.X
open Go Go.Ev
def inK : CallT := (memoS gb callA)
def nilK : CallT := (memoS ab callA)
def hR : H := ⟨.o .h, .o .h, (PT.e : PT O).set .h (.row 0 1 (.v 1) (.v 2) [])⟩
def argsR0 : List V := .fs .h 0 :: [.b false]
def argsN0 : List V := .snil :: [.b false]
theorem r_in0 : initFr argsR0 (fun fr => zIn qC.z0 ⟨inK, 3, 20000⟩ fr hR ⟨fxL, []⟩ (fun fr h fa => zIn qC.z1 ⟨inK, 3, 20000⟩ fr h fa (fun fr h _ => nextK st1 [(2 * 0, sgW kp (some (.lit 0)) (.lit 0)), (2 * 0 + 1, sgW kp (some (.lit 0)) (.lit 0))] fr h) (kLoop qC.z2 ⟨inK, 3, 20000⟩ st2 [] (zOut qC.z0 ⟨inK, 3, 20000⟩ (koB qC.rs)))) (koB qC.rs)) = 0 := by decide +kernel
theorem r_nil0 : callS cx1 0 nilK 3 argsN0 ⟨.h, .h, .e⟩ ⟨fxL, []⟩ endB = 0 := by decide +kernel
def argsR1 : List V := .fs .h 0 :: [.b true]
def argsN1 : List V := .snil :: [.b true]
theorem r_in1 : initFr argsR1 (fun fr => zIn qC.z0 ⟨inK, 3, 20000⟩ fr hR ⟨fxL, []⟩ (fun fr h fa => zIn qC.z1 ⟨inK, 3, 20000⟩ fr h fa (fun fr h _ => nextK st1 [(2 * 65, sgW kp (some (.lit 0)) (.lit 0)), (2 * 65 + 1, sgW kp (some (.lit 0)) (.lit 0))] fr h) (kLoop qC.z2 ⟨inK, 3, 20000⟩ st2 [] (zOut qC.z0 ⟨inK, 3, 20000⟩ (koB qC.rs)))) (koB qC.rs)) = 0 := by decide +kernel
theorem r_nil1 : callS cx1 0 nilK 3 argsN1 ⟨.h, .h, .e⟩ ⟨fxL, []⟩ endB = 0 := by decide +kernel
end Go.Ev.X
end
