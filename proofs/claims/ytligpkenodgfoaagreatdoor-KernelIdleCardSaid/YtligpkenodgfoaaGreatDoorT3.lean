/-
  A case of the law, over its calls.
-/
import Derived.Test.YtligpkenodgfoaaGreatDoorIC23
import Derived.Test.YtligpkenodgfoaaGreatDoorIC24
import Derived.Test.YtligpkenodgfoaaGreatDoorIC60
import Derived.Test.YtligpkenodgfoaaGreatDoorIC62
import Derived.Test.YtligpkenodgfoaaGreatDoorAX
import Derived.Test.YtligpkenodgfoaaGreatDoorIC69
import Derived.Test.YtligpkenodgfoaaGreatDoorIC27
import Derived.Test.YtligpkenodgfoaaGreatDoorIC31
import Derived.Test.YtligpkenodgfoaaGreatDoorIC33
set_option linter.unusedSimpArgs false
set_option linter.unusedVariables false
set_option maxRecDepth 100000
noncomputable section
namespace Go.Ev.X
open Go Go.Ev
def iIn21 : CallT := (memoS im23 (memoS im24 (memoS im65 (memoS im60 (memoS im61 (memoS im62 (memoS im63 callA)))))))
theorem i_run21 : callS cx1 0 iIn21 6 argsI ⟨.h, .h, .e⟩ ⟨fc21, []⟩ endB = 0 := by decide +kernel
theorem iIn21_ok {E : Env} {P : Program} (hx : CxOk E P (tyOf P) cx1) (h1 : CallOk E P call1) (hl : CallOk E P callA) (hf : FaOk E ⟨fc21, []⟩) : CallOk E P iIn21 := (msS_ok rfl it23 FaOk.nil h1 (msS_ok rfl it24 FaOk.nil h1 (msS_ok rfl it65 hf h1 (msS_ok rfl it60 FaOk.nil h1 (msS_ok rfl it61 FaOk.nil h1 (msS_ok rfl it62 FaOk.nil h1 (msS_ok rfl it63 FaOk.nil h1 hl)))))))
end Go.Ev.X
end
/-
  A case of the law, over its calls.
-/
set_option linter.unusedSimpArgs false
set_option linter.unusedVariables false
set_option maxRecDepth 100000
noncomputable section
namespace Go.Ev.X
open Go Go.Ev
def iIn22 : CallT := (memoS im23 (memoS im24 (memoS im66 (memoS im60 (memoS im61 (memoS im62 (memoS im63 callA)))))))
theorem i_run22 : callS cx1 0 iIn22 6 argsI ⟨.h, .h, .e⟩ ⟨fc22, []⟩ endB = 0 := by decide +kernel
theorem iIn22_ok {E : Env} {P : Program} (hx : CxOk E P (tyOf P) cx1) (h1 : CallOk E P call1) (hl : CallOk E P callA) (hf : FaOk E ⟨fc22, []⟩) : CallOk E P iIn22 := (msS_ok rfl it23 FaOk.nil h1 (msS_ok rfl it24 FaOk.nil h1 (msS_ok rfl it66 hf h1 (msS_ok rfl it60 FaOk.nil h1 (msS_ok rfl it61 FaOk.nil h1 (msS_ok rfl it62 FaOk.nil h1 (msS_ok rfl it63 FaOk.nil h1 hl)))))))
end Go.Ev.X
end
/-
  A case of the law, over its calls.
-/
set_option linter.unusedSimpArgs false
set_option linter.unusedVariables false
set_option maxRecDepth 100000
noncomputable section
namespace Go.Ev.X
open Go Go.Ev
def iIn23 : CallT := (memoS im23 (memoS im24 (memoS im67 (memoS im60 (memoS im61 (memoS im62 (memoS im63 callA)))))))
theorem i_run23 : callS cx1 0 iIn23 6 argsI ⟨.h, .h, .e⟩ ⟨fc23, []⟩ endB = 0 := by decide +kernel
theorem iIn23_ok {E : Env} {P : Program} (hx : CxOk E P (tyOf P) cx1) (h1 : CallOk E P call1) (hl : CallOk E P callA) (hf : FaOk E ⟨fc23, []⟩) : CallOk E P iIn23 := (msS_ok rfl it23 FaOk.nil h1 (msS_ok rfl it24 FaOk.nil h1 (msS_ok rfl it67 hf h1 (msS_ok rfl it60 FaOk.nil h1 (msS_ok rfl it61 FaOk.nil h1 (msS_ok rfl it62 FaOk.nil h1 (msS_ok rfl it63 FaOk.nil h1 hl)))))))
end Go.Ev.X
end
/-
  A case of the law, over its calls.
-/
set_option linter.unusedSimpArgs false
set_option linter.unusedVariables false
set_option maxRecDepth 100000
noncomputable section
namespace Go.Ev.X
open Go Go.Ev
def iIn24 : CallT := (memoS im23 (memoS im24 (memoS im68 (memoS im60 (memoS im61 (memoS im62 (memoS im63 callA)))))))
theorem i_run24 : callS cx1 0 iIn24 6 argsI ⟨.h, .h, .e⟩ ⟨fc24, []⟩ endB = 0 := by decide +kernel
theorem iIn24_ok {E : Env} {P : Program} (hx : CxOk E P (tyOf P) cx1) (h1 : CallOk E P call1) (hl : CallOk E P callA) (hf : FaOk E ⟨fc24, []⟩) : CallOk E P iIn24 := (msS_ok rfl it23 FaOk.nil h1 (msS_ok rfl it24 FaOk.nil h1 (msS_ok rfl it68 hf h1 (msS_ok rfl it60 FaOk.nil h1 (msS_ok rfl it61 FaOk.nil h1 (msS_ok rfl it62 FaOk.nil h1 (msS_ok rfl it63 FaOk.nil h1 hl)))))))
end Go.Ev.X
end
/-
  A case of the law, over its calls.
-/
set_option linter.unusedSimpArgs false
set_option linter.unusedVariables false
set_option maxRecDepth 100000
noncomputable section
namespace Go.Ev.X
open Go Go.Ev
def iIn25 : CallT := (memoS im23 (memoS im24 (memoS im69 (memoS im60 (memoS im61 (memoS im62 (memoS im63 callA)))))))
theorem i_run25 : callS cx1 0 iIn25 6 argsI ⟨.h, .h, .e⟩ ⟨fc25, []⟩ endB = 0 := by decide +kernel
theorem iIn25_ok {E : Env} {P : Program} (hx : CxOk E P (tyOf P) cx1) (h1 : CallOk E P call1) (hl : CallOk E P callA) (hf : FaOk E ⟨fc25, []⟩) : CallOk E P iIn25 := (msS_ok rfl it23 FaOk.nil h1 (msS_ok rfl it24 FaOk.nil h1 (msS_ok rfl it69 hf h1 (msS_ok rfl it60 FaOk.nil h1 (msS_ok rfl it61 FaOk.nil h1 (msS_ok rfl it62 FaOk.nil h1 (msS_ok rfl it63 FaOk.nil h1 hl)))))))
end Go.Ev.X
end
/-
  A case of the law, over its calls.
-/
set_option linter.unusedSimpArgs false
set_option linter.unusedVariables false
set_option maxRecDepth 100000
noncomputable section
namespace Go.Ev.X
open Go Go.Ev
def iIn26 : CallT := (memoS im23 (memoS im24 (memoS im70 (memoS im60 (memoS im61 (memoS im62 (memoS im63 callA)))))))
theorem i_run26 : callS cx1 0 iIn26 6 argsI ⟨.h, .h, .e⟩ ⟨fc26, []⟩ endB = 0 := by decide +kernel
theorem iIn26_ok {E : Env} {P : Program} (hx : CxOk E P (tyOf P) cx1) (h1 : CallOk E P call1) (hl : CallOk E P callA) (hf : FaOk E ⟨fc26, []⟩) : CallOk E P iIn26 := (msS_ok rfl it23 FaOk.nil h1 (msS_ok rfl it24 FaOk.nil h1 (msS_ok rfl it70 hf h1 (msS_ok rfl it60 FaOk.nil h1 (msS_ok rfl it61 FaOk.nil h1 (msS_ok rfl it62 FaOk.nil h1 (msS_ok rfl it63 FaOk.nil h1 hl)))))))
end Go.Ev.X
end
/-
  A case of the law, over its calls.
-/
set_option linter.unusedSimpArgs false
set_option linter.unusedVariables false
set_option maxRecDepth 100000
noncomputable section
namespace Go.Ev.X
open Go Go.Ev
def iIn27 : CallT := (memoS im23 (memoS im24 (memoS im71 (memoS im26 (memoS im27 (memoS im28 (memoS im29 callA)))))))
theorem i_run27 : callS cx1 0 iIn27 6 argsI ⟨.h, .h, .e⟩ ⟨fc27, []⟩ endB = 0 := by decide +kernel
theorem iIn27_ok {E : Env} {P : Program} (hx : CxOk E P (tyOf P) cx1) (h1 : CallOk E P call1) (hl : CallOk E P callA) (hf : FaOk E ⟨fc27, []⟩) : CallOk E P iIn27 := (msS_ok rfl it23 FaOk.nil h1 (msS_ok rfl it24 FaOk.nil h1 (msS_ok rfl it71 hf h1 (msS_ok rfl it26 FaOk.nil h1 (msS_ok rfl it27 FaOk.nil h1 (msS_ok rfl it28 FaOk.nil h1 (msS_ok rfl it29 FaOk.nil h1 hl)))))))
end Go.Ev.X
end
/-
  A case of the law, over its calls.
-/
set_option linter.unusedSimpArgs false
set_option linter.unusedVariables false
set_option maxRecDepth 100000
noncomputable section
namespace Go.Ev.X
open Go Go.Ev
def iIn28 : CallT := (memoS im23 (memoS im24 (memoS im72 (memoS im26 (memoS im27 (memoS im28 (memoS im29 callA)))))))
theorem i_run28 : callS cx1 0 iIn28 6 argsI ⟨.h, .h, .e⟩ ⟨fc28, []⟩ endB = 0 := by decide +kernel
theorem iIn28_ok {E : Env} {P : Program} (hx : CxOk E P (tyOf P) cx1) (h1 : CallOk E P call1) (hl : CallOk E P callA) (hf : FaOk E ⟨fc28, []⟩) : CallOk E P iIn28 := (msS_ok rfl it23 FaOk.nil h1 (msS_ok rfl it24 FaOk.nil h1 (msS_ok rfl it72 hf h1 (msS_ok rfl it26 FaOk.nil h1 (msS_ok rfl it27 FaOk.nil h1 (msS_ok rfl it28 FaOk.nil h1 (msS_ok rfl it29 FaOk.nil h1 hl)))))))
end Go.Ev.X
end
/-
  A case of the law, over its calls.
-/
set_option linter.unusedSimpArgs false
set_option linter.unusedVariables false
set_option maxRecDepth 100000
noncomputable section
namespace Go.Ev.X
open Go Go.Ev
def iIn29 : CallT := (memoS im23 (memoS im24 (memoS im73 (memoS im31 (memoS im32 (memoS im33 (memoS im34 callA)))))))
theorem i_run29 : callS cx1 0 iIn29 6 argsI ⟨.h, .h, .e⟩ ⟨fc29, []⟩ endB = 0 := by decide +kernel
theorem iIn29_ok {E : Env} {P : Program} (hx : CxOk E P (tyOf P) cx1) (h1 : CallOk E P call1) (hl : CallOk E P callA) (hf : FaOk E ⟨fc29, []⟩) : CallOk E P iIn29 := (msS_ok rfl it23 FaOk.nil h1 (msS_ok rfl it24 FaOk.nil h1 (msS_ok rfl it73 hf h1 (msS_ok rfl it31 FaOk.nil h1 (msS_ok rfl it32 FaOk.nil h1 (msS_ok rfl it33 FaOk.nil h1 (msS_ok rfl it34 FaOk.nil h1 hl)))))))
end Go.Ev.X
end
