/-
  What calls come to.
-/
import Derived.Test.YtligpkenodgfoaaGreatDoorLH
import Derived.Test.YtligpkenodgfoaaGreatDoorLC1
import Derived.Test.YtligpkenodgfoaaGreatDoorLC7
set_option linter.unusedSimpArgs false
set_option linter.unusedVariables false
set_option maxRecDepth 100000
noncomputable section
namespace Go.Ev.X
open Go Go.Ev
def ln11 : CallT := callS cx1 0 (memoS lm1 (memoS lm2 (memoS lm3 (memoS lm4 (memoS lm5 (memoS lm6 (memoS lm7 (memoS lm8 (memoS lm9 (memoS lm10 call1))))))))))
theorem ln11_ok {E : Env} {P : Program} (hx : CxOk E P (tyOf P) cx1) (h1 : CallOk E P call1) : CallOk E P ln11 := callS_run hx 0 (msS_ok rfl lt1 FaOk.nil h1 (msS_ok rfl lt2 FaOk.nil h1 (msS_ok rfl lt3 FaOk.nil h1 (msS_ok rfl lt4 FaOk.nil h1 (msS_ok rfl lt5 FaOk.nil h1 (msS_ok rfl lt6 FaOk.nil h1 (msS_ok rfl lt7 FaOk.nil h1 (msS_ok rfl lt8 FaOk.nil h1 (msS_ok rfl lt9 FaOk.nil h1 (msS_ok rfl lt10 FaOk.nil h1 h1))))))))))
theorem lt11 : lm11.run ln11 ⟨[], []⟩ = 0 := by decide +kernel
end Go.Ev.X
end
