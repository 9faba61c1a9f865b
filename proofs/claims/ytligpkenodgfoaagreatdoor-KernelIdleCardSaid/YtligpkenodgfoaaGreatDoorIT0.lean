/-
  A case of the law, over its calls.
-/
import Derived.Test.YtligpkenodgfoaaGreatDoorIC0
import Derived.Test.YtligpkenodgfoaaGreatDoorIC11
import Derived.Test.YtligpkenodgfoaaGreatDoorIC12
import Derived.Test.YtligpkenodgfoaaGreatDoorIC19
set_option linter.unusedSimpArgs false
set_option linter.unusedVariables false
set_option maxRecDepth 100000
noncomputable section
namespace Go.Ev.X
open Go Go.Ev
def iIn0 : CallT := (memoS im0 (memoS im11 (memoS im12 (memoS im13 (memoS im14 (memoS im15 (memoS im16 (memoS im17 (memoS im18 (memoS im19 (memoS im20 (memoS im21 (memoS im22 call1)))))))))))))
theorem i_run0 : callS cx1 0 iIn0 7 [] ⟨.h, .h, .e⟩ ⟨[], []⟩ endB = 0 := by decide +kernel
theorem iIn0_ok {E : Env} {P : Program} (hx : CxOk E P (tyOf P) cx1) (h1 : CallOk E P call1) (hl : CallOk E P call1) (hf : FaOk E ⟨[], []⟩) : CallOk E P iIn0 := (msS_ok rfl it0 FaOk.nil h1 (msS_ok rfl it11 FaOk.nil (in11_ok hx h1) (msS_ok rfl it12 FaOk.nil h1 (msS_ok rfl it13 FaOk.nil h1 (msS_ok rfl it14 FaOk.nil h1 (msS_ok rfl it15 FaOk.nil h1 (msS_ok rfl it16 FaOk.nil h1 (msS_ok rfl it17 FaOk.nil h1 (msS_ok rfl it18 FaOk.nil h1 (msS_ok rfl it19 FaOk.nil h1 (msS_ok rfl it20 FaOk.nil h1 (msS_ok rfl it21 FaOk.nil h1 (msS_ok rfl it22 FaOk.nil h1 hl)))))))))))))
end Go.Ev.X
end
