/-
  What calls come to.
-/
import Derived.Test.YtligpkenodgfoaaGreatDoorIH
import Derived.Test.YtligpkenodgfoaaGreatDoorIC1
import Derived.Test.YtligpkenodgfoaaGreatDoorIC7
set_option linter.unusedSimpArgs false
set_option linter.unusedVariables false
set_option maxRecDepth 100000
noncomputable section
namespace Go.Ev.X
open Go Go.Ev
def in11 : CallT := callS cx1 0 (memoS im1 (memoS im2 (memoS im3 (memoS im4 (memoS im5 (memoS im6 (memoS im7 (memoS im8 (memoS im9 (memoS im10 call1))))))))))
theorem in11_ok {E : Env} {P : Program} (hx : CxOk E P (tyOf P) cx1) (h1 : CallOk E P call1) : CallOk E P in11 := callS_run hx 0 (msS_ok rfl it1 FaOk.nil h1 (msS_ok rfl it2 FaOk.nil h1 (msS_ok rfl it3 FaOk.nil h1 (msS_ok rfl it4 FaOk.nil h1 (msS_ok rfl it5 FaOk.nil h1 (msS_ok rfl it6 FaOk.nil h1 (msS_ok rfl it7 FaOk.nil h1 (msS_ok rfl it8 FaOk.nil h1 (msS_ok rfl it9 FaOk.nil h1 (msS_ok rfl it10 FaOk.nil h1 h1))))))))))
theorem it11 : im11.run in11 ⟨[], []⟩ = 0 := by decide +kernel
end Go.Ev.X
end
