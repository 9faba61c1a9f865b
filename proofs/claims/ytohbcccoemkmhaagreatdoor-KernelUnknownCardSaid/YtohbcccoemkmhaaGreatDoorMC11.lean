/-
  What calls come to.
-/
import Derived.Test.YtohbcccoemkmhaaGreatDoorMH
import Derived.Test.YtohbcccoemkmhaaGreatDoorMC1
import Derived.Test.YtohbcccoemkmhaaGreatDoorMC4
import Derived.Test.YtohbcccoemkmhaaGreatDoorMC7
import Derived.Test.YtohbcccoemkmhaaGreatDoorMC9
import Derived.Test.YtohbcccoemkmhaaGreatDoorMC10
set_option linter.unusedSimpArgs false
set_option linter.unusedVariables false
set_option maxRecDepth 100000
noncomputable section
namespace Go.Ev.X
open Go Go.Ev
def mn11 : CallT := callS cx1 0 (memoS mm1 (memoS mm2 (memoS mm3 (memoS mm4 (memoS mm5 (memoS mm6 (memoS mm7 (memoS mm8 (memoS mm9 (memoS mm10 call1))))))))))
theorem mn11_ok {E : Env} {P : Program} (hx : CxOk E P (tyOf P) cx1) (h1 : CallOk E P call1) : CallOk E P mn11 := callS_run hx 0 (msS_ok rfl mt1 FaOk.nil h1 (msS_ok rfl mt2 FaOk.nil h1 (msS_ok rfl mt3 FaOk.nil h1 (msS_ok rfl mt4 FaOk.nil h1 (msS_ok rfl mt5 FaOk.nil h1 (msS_ok rfl mt6 FaOk.nil h1 (msS_ok rfl mt7 FaOk.nil h1 (msS_ok rfl mt8 FaOk.nil h1 (msS_ok rfl mt9 FaOk.nil h1 (msS_ok rfl mt10 FaOk.nil h1 h1))))))))))
theorem mt11 : mm11.run mn11 ⟨[], []⟩ = 0 := by decide +kernel
end Go.Ev.X
end
