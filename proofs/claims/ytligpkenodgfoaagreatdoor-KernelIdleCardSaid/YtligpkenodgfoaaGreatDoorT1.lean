/-
  A case of the law, over its calls.
-/
import Derived.Test.YtligpkenodgfoaaGreatDoorIC23
import Derived.Test.YtligpkenodgfoaaGreatDoorIC24
import Derived.Test.YtligpkenodgfoaaGreatDoorIC27
import Derived.Test.YtligpkenodgfoaaGreatDoorAX
import Derived.Test.YtligpkenodgfoaaGreatDoorIC31
import Derived.Test.YtligpkenodgfoaaGreatDoorIC33
import Derived.Test.YtligpkenodgfoaaGreatDoorIC37
import Derived.Test.YtligpkenodgfoaaGreatDoorIC42
set_option linter.unusedSimpArgs false
set_option linter.unusedVariables false
set_option maxRecDepth 100000
noncomputable section
namespace Go.Ev.X
open Go Go.Ev
def iIn1 : CallT := (memoS im23 (memoS im24 (memoS im25 (memoS im26 (memoS im27 (memoS im28 (memoS im29 callA)))))))
theorem i_run1 : callS cx1 0 iIn1 6 argsI ⟨.h, .h, .e⟩ ⟨fc1, []⟩ endB = 0 := by decide +kernel
theorem iIn1_ok {E : Env} {P : Program} (hx : CxOk E P (tyOf P) cx1) (h1 : CallOk E P call1) (hl : CallOk E P callA) (hf : FaOk E ⟨fc1, []⟩) : CallOk E P iIn1 := (msS_ok rfl it23 FaOk.nil h1 (msS_ok rfl it24 FaOk.nil h1 (msS_ok rfl it25 hf h1 (msS_ok rfl it26 FaOk.nil h1 (msS_ok rfl it27 FaOk.nil h1 (msS_ok rfl it28 FaOk.nil h1 (msS_ok rfl it29 FaOk.nil h1 hl)))))))
end Go.Ev.X
end
/-
  A case of the law, over its calls.
-/
set_option linter.unusedSimpArgs false
set_option linter.unusedVariables false
set_option maxRecDepth 100000
noncomputable section
namespace Go.Ev.X
open Go Go.Ev
def iIn2 : CallT := (memoS im23 (memoS im24 (memoS im30 (memoS im31 (memoS im32 (memoS im33 (memoS im34 callA)))))))
theorem i_run2 : callS cx1 0 iIn2 6 argsI ⟨.h, .h, .e⟩ ⟨fc2, []⟩ endB = 0 := by decide +kernel
theorem iIn2_ok {E : Env} {P : Program} (hx : CxOk E P (tyOf P) cx1) (h1 : CallOk E P call1) (hl : CallOk E P callA) (hf : FaOk E ⟨fc2, []⟩) : CallOk E P iIn2 := (msS_ok rfl it23 FaOk.nil h1 (msS_ok rfl it24 FaOk.nil h1 (msS_ok rfl it30 hf h1 (msS_ok rfl it31 FaOk.nil h1 (msS_ok rfl it32 FaOk.nil h1 (msS_ok rfl it33 FaOk.nil h1 (msS_ok rfl it34 FaOk.nil h1 hl)))))))
end Go.Ev.X
end
/-
  A case of the law, over its calls.
-/
set_option linter.unusedSimpArgs false
set_option linter.unusedVariables false
set_option maxRecDepth 100000
noncomputable section
namespace Go.Ev.X
open Go Go.Ev
def iIn3 : CallT := (memoS im23 (memoS im24 (memoS im35 (memoS im36 (memoS im37 (memoS im38 (memoS im39 callA)))))))
theorem i_run3 : callS cx1 0 iIn3 6 argsI ⟨.h, .h, .e⟩ ⟨fc3, []⟩ endB = 0 := by decide +kernel
theorem iIn3_ok {E : Env} {P : Program} (hx : CxOk E P (tyOf P) cx1) (h1 : CallOk E P call1) (hl : CallOk E P callA) (hf : FaOk E ⟨fc3, []⟩) : CallOk E P iIn3 := (msS_ok rfl it23 FaOk.nil h1 (msS_ok rfl it24 FaOk.nil h1 (msS_ok rfl it35 hf h1 (msS_ok rfl it36 FaOk.nil h1 (msS_ok rfl it37 FaOk.nil h1 (msS_ok rfl it38 FaOk.nil h1 (msS_ok rfl it39 FaOk.nil h1 hl)))))))
end Go.Ev.X
end
/-
  A case of the law, over its calls.
-/
set_option linter.unusedSimpArgs false
set_option linter.unusedVariables false
set_option maxRecDepth 100000
noncomputable section
namespace Go.Ev.X
open Go Go.Ev
def iIn4 : CallT := (memoS im23 (memoS im24 (memoS im40 (memoS im26 (memoS im27 (memoS im28 (memoS im29 callA)))))))
theorem i_run4 : callS cx1 0 iIn4 6 argsI ⟨.h, .h, .e⟩ ⟨fc4, []⟩ endB = 0 := by decide +kernel
theorem iIn4_ok {E : Env} {P : Program} (hx : CxOk E P (tyOf P) cx1) (h1 : CallOk E P call1) (hl : CallOk E P callA) (hf : FaOk E ⟨fc4, []⟩) : CallOk E P iIn4 := (msS_ok rfl it23 FaOk.nil h1 (msS_ok rfl it24 FaOk.nil h1 (msS_ok rfl it40 hf h1 (msS_ok rfl it26 FaOk.nil h1 (msS_ok rfl it27 FaOk.nil h1 (msS_ok rfl it28 FaOk.nil h1 (msS_ok rfl it29 FaOk.nil h1 hl)))))))
end Go.Ev.X
end
/-
  A case of the law, over its calls.
-/
set_option linter.unusedSimpArgs false
set_option linter.unusedVariables false
set_option maxRecDepth 100000
noncomputable section
namespace Go.Ev.X
open Go Go.Ev
def iIn5 : CallT := (memoS im23 (memoS im24 (memoS im41 (memoS im26 (memoS im27 (memoS im28 (memoS im29 callA)))))))
theorem i_run5 : callS cx1 0 iIn5 6 argsI ⟨.h, .h, .e⟩ ⟨fc5, []⟩ endB = 0 := by decide +kernel
theorem iIn5_ok {E : Env} {P : Program} (hx : CxOk E P (tyOf P) cx1) (h1 : CallOk E P call1) (hl : CallOk E P callA) (hf : FaOk E ⟨fc5, []⟩) : CallOk E P iIn5 := (msS_ok rfl it23 FaOk.nil h1 (msS_ok rfl it24 FaOk.nil h1 (msS_ok rfl it41 hf h1 (msS_ok rfl it26 FaOk.nil h1 (msS_ok rfl it27 FaOk.nil h1 (msS_ok rfl it28 FaOk.nil h1 (msS_ok rfl it29 FaOk.nil h1 hl)))))))
end Go.Ev.X
end
/-
  A case of the law, over its calls.
-/
set_option linter.unusedSimpArgs false
set_option linter.unusedVariables false
set_option maxRecDepth 100000
noncomputable section
namespace Go.Ev.X
open Go Go.Ev
def iIn6 : CallT := (memoS im23 (memoS im24 (memoS im42 (memoS im26 (memoS im27 (memoS im28 (memoS im29 callA)))))))
theorem i_run6 : callS cx1 0 iIn6 6 argsI ⟨.h, .h, .e⟩ ⟨fc6, []⟩ endB = 0 := by decide +kernel
theorem iIn6_ok {E : Env} {P : Program} (hx : CxOk E P (tyOf P) cx1) (h1 : CallOk E P call1) (hl : CallOk E P callA) (hf : FaOk E ⟨fc6, []⟩) : CallOk E P iIn6 := (msS_ok rfl it23 FaOk.nil h1 (msS_ok rfl it24 FaOk.nil h1 (msS_ok rfl it42 hf h1 (msS_ok rfl it26 FaOk.nil h1 (msS_ok rfl it27 FaOk.nil h1 (msS_ok rfl it28 FaOk.nil h1 (msS_ok rfl it29 FaOk.nil h1 hl)))))))
end Go.Ev.X
end
/-
  A case of the law, over its calls.
-/
set_option linter.unusedSimpArgs false
set_option linter.unusedVariables false
set_option maxRecDepth 100000
noncomputable section
namespace Go.Ev.X
open Go Go.Ev
def iIn7 : CallT := (memoS im23 (memoS im24 (memoS im43 (memoS im26 (memoS im27 (memoS im28 (memoS im29 callA)))))))
theorem i_run7 : callS cx1 0 iIn7 6 argsI ⟨.h, .h, .e⟩ ⟨fc7, []⟩ endB = 0 := by decide +kernel
theorem iIn7_ok {E : Env} {P : Program} (hx : CxOk E P (tyOf P) cx1) (h1 : CallOk E P call1) (hl : CallOk E P callA) (hf : FaOk E ⟨fc7, []⟩) : CallOk E P iIn7 := (msS_ok rfl it23 FaOk.nil h1 (msS_ok rfl it24 FaOk.nil h1 (msS_ok rfl it43 hf h1 (msS_ok rfl it26 FaOk.nil h1 (msS_ok rfl it27 FaOk.nil h1 (msS_ok rfl it28 FaOk.nil h1 (msS_ok rfl it29 FaOk.nil h1 hl)))))))
end Go.Ev.X
end
/-
  A case of the law, over its calls.
-/
set_option linter.unusedSimpArgs false
set_option linter.unusedVariables false
set_option maxRecDepth 100000
noncomputable section
namespace Go.Ev.X
open Go Go.Ev
def iIn8 : CallT := (memoS im23 (memoS im24 (memoS im44 (memoS im31 (memoS im32 (memoS im33 (memoS im34 callA)))))))
theorem i_run8 : callS cx1 0 iIn8 6 argsI ⟨.h, .h, .e⟩ ⟨fc8, []⟩ endB = 0 := by decide +kernel
theorem iIn8_ok {E : Env} {P : Program} (hx : CxOk E P (tyOf P) cx1) (h1 : CallOk E P call1) (hl : CallOk E P callA) (hf : FaOk E ⟨fc8, []⟩) : CallOk E P iIn8 := (msS_ok rfl it23 FaOk.nil h1 (msS_ok rfl it24 FaOk.nil h1 (msS_ok rfl it44 hf h1 (msS_ok rfl it31 FaOk.nil h1 (msS_ok rfl it32 FaOk.nil h1 (msS_ok rfl it33 FaOk.nil h1 (msS_ok rfl it34 FaOk.nil h1 hl)))))))
end Go.Ev.X
end
/-
  A case of the law, over its calls.
-/
set_option linter.unusedSimpArgs false
set_option linter.unusedVariables false
set_option maxRecDepth 100000
noncomputable section
namespace Go.Ev.X
open Go Go.Ev
def iIn9 : CallT := (memoS im23 (memoS im24 (memoS im45 (memoS im26 (memoS im27 (memoS im28 (memoS im29 callA)))))))
theorem i_run9 : callS cx1 0 iIn9 6 argsI ⟨.h, .h, .e⟩ ⟨fc9, []⟩ endB = 0 := by decide +kernel
theorem iIn9_ok {E : Env} {P : Program} (hx : CxOk E P (tyOf P) cx1) (h1 : CallOk E P call1) (hl : CallOk E P callA) (hf : FaOk E ⟨fc9, []⟩) : CallOk E P iIn9 := (msS_ok rfl it23 FaOk.nil h1 (msS_ok rfl it24 FaOk.nil h1 (msS_ok rfl it45 hf h1 (msS_ok rfl it26 FaOk.nil h1 (msS_ok rfl it27 FaOk.nil h1 (msS_ok rfl it28 FaOk.nil h1 (msS_ok rfl it29 FaOk.nil h1 hl)))))))
end Go.Ev.X
end
/-
  A case of the law, over its calls.
-/
set_option linter.unusedSimpArgs false
set_option linter.unusedVariables false
set_option maxRecDepth 100000
noncomputable section
namespace Go.Ev.X
open Go Go.Ev
def iIn10 : CallT := (memoS im23 (memoS im24 (memoS im46 (memoS im26 (memoS im27 (memoS im28 (memoS im29 callA)))))))
theorem i_run10 : callS cx1 0 iIn10 6 argsI ⟨.h, .h, .e⟩ ⟨fc10, []⟩ endB = 0 := by decide +kernel
theorem iIn10_ok {E : Env} {P : Program} (hx : CxOk E P (tyOf P) cx1) (h1 : CallOk E P call1) (hl : CallOk E P callA) (hf : FaOk E ⟨fc10, []⟩) : CallOk E P iIn10 := (msS_ok rfl it23 FaOk.nil h1 (msS_ok rfl it24 FaOk.nil h1 (msS_ok rfl it46 hf h1 (msS_ok rfl it26 FaOk.nil h1 (msS_ok rfl it27 FaOk.nil h1 (msS_ok rfl it28 FaOk.nil h1 (msS_ok rfl it29 FaOk.nil h1 hl)))))))
end Go.Ev.X
end
