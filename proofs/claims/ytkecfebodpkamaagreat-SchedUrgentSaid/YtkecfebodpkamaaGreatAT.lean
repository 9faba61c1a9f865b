/-
  The chapter's example.
-/
import Derived.Test.YtkecfebodpkamaaGreatAB
set_option linter.unusedSimpArgs false
set_option linter.unusedVariables false
set_option maxRecDepth 100000
noncomputable section
namespace Go.Ev.X
open Go Go.Ev
def endB : K := fun v _ _ => bc (V.beq v (.b true)) 0 1
def aIn0 : CallT := memoS ab call1
theorem a_run0 : callS cx1 0 aIn0 8 [] ⟨.h, .h, .e⟩ ⟨[], []⟩ endB = 0 := by decide +kernel
theorem aIn0_ok {E : Env} {P : Program} (h1 : CallOk E P call1) : CallOk E P aIn0 := msS_ok rfl abt FaOk.nil h1 h1
end Go.Ev.X
end
