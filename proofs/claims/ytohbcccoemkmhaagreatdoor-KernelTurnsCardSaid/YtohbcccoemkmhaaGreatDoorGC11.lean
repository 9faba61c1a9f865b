/-
  What calls come to.
-/
import Derived.Test.YtohbcccoemkmhaaGreatDoorGH
import Derived.Test.YtohbcccoemkmhaaGreatDoorGC1
import Derived.Test.YtohbcccoemkmhaaGreatDoorGC4
import Derived.Test.YtohbcccoemkmhaaGreatDoorGC7
import Derived.Test.YtohbcccoemkmhaaGreatDoorGC9
import Derived.Test.YtohbcccoemkmhaaGreatDoorGC10
set_option linter.unusedSimpArgs false
set_option linter.unusedVariables false
set_option maxRecDepth 100000
noncomputable section
namespace Go.Ev.X
open Go Go.Ev
def gn11 : CallT := callS cx1 0 (memoS gm1 (memoS gm2 (memoS gm3 (memoS gm4 (memoS gm5 (memoS gm6 (memoS gm7 (memoS gm8 (memoS gm9 (memoS gm10 call1))))))))))
theorem gn11_ok {E : Env} {P : Program} (hx : CxOk E P (tyOf P) cx1) (h1 : CallOk E P call1) : CallOk E P gn11 := callS_run hx 0 (msS_ok rfl gt1 FaOk.nil h1 (msS_ok rfl gt2 FaOk.nil h1 (msS_ok rfl gt3 FaOk.nil h1 (msS_ok rfl gt4 FaOk.nil h1 (msS_ok rfl gt5 FaOk.nil h1 (msS_ok rfl gt6 FaOk.nil h1 (msS_ok rfl gt7 FaOk.nil h1 (msS_ok rfl gt8 FaOk.nil h1 (msS_ok rfl gt9 FaOk.nil h1 (msS_ok rfl gt10 FaOk.nil h1 h1))))))))))
theorem gt11 : gm11.run gn11 ⟨[], []⟩ = 0 := by decide +kernel
end Go.Ev.X
end
