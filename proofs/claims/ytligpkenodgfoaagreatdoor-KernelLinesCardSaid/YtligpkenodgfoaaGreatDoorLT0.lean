/-
  A case of the law, over its calls.
-/
import Derived.Test.YtligpkenodgfoaaGreatDoorLC0
import Derived.Test.YtligpkenodgfoaaGreatDoorLC11
import Derived.Test.YtligpkenodgfoaaGreatDoorLC12
import Derived.Test.YtligpkenodgfoaaGreatDoorLC19
set_option linter.unusedSimpArgs false
set_option linter.unusedVariables false
set_option maxRecDepth 100000
noncomputable section
namespace Go.Ev.X
open Go Go.Ev
def lIn0 : CallT := (memoS lm0 (memoS lm11 (memoS lm12 (memoS lm13 (memoS lm14 (memoS lm15 (memoS lm16 (memoS lm17 (memoS lm18 (memoS lm19 (memoS lm20 (memoS lm21 (memoS lm22 call1)))))))))))))
theorem l_run0 : callS cx1 0 lIn0 7 [] ⟨.h, .h, .e⟩ ⟨[], []⟩ endB = 0 := by decide +kernel
theorem lIn0_ok {E : Env} {P : Program} (hx : CxOk E P (tyOf P) cx1) (h1 : CallOk E P call1) (hl : CallOk E P call1) (hf : FaOk E ⟨[], []⟩) : CallOk E P lIn0 := (msS_ok rfl lt0 FaOk.nil h1 (msS_ok rfl lt11 FaOk.nil (ln11_ok hx h1) (msS_ok rfl lt12 FaOk.nil h1 (msS_ok rfl lt13 FaOk.nil h1 (msS_ok rfl lt14 FaOk.nil h1 (msS_ok rfl lt15 FaOk.nil h1 (msS_ok rfl lt16 FaOk.nil h1 (msS_ok rfl lt17 FaOk.nil h1 (msS_ok rfl lt18 FaOk.nil h1 (msS_ok rfl lt19 FaOk.nil h1 (msS_ok rfl lt20 FaOk.nil h1 (msS_ok rfl lt21 FaOk.nil h1 (msS_ok rfl lt22 FaOk.nil h1 hl)))))))))))))
end Go.Ev.X
end
