/-
  A case of the law, over its calls.
-/
import Derived.Test.YtligpkenodgfoaaGreatDoorIC23
import Derived.Test.YtligpkenodgfoaaGreatDoorIC24
import Derived.Test.YtligpkenodgfoaaGreatDoorIC27
import Derived.Test.YtligpkenodgfoaaGreatDoorIC42
import Derived.Test.YtligpkenodgfoaaGreatDoorAX
import Derived.Test.YtligpkenodgfoaaGreatDoorIC48
import Derived.Test.YtligpkenodgfoaaGreatDoorIC31
import Derived.Test.YtligpkenodgfoaaGreatDoorIC33
import Derived.Test.YtligpkenodgfoaaGreatDoorIC53
import Derived.Test.YtligpkenodgfoaaGreatDoorIC55
import Derived.Test.YtligpkenodgfoaaGreatDoorIC60
import Derived.Test.YtligpkenodgfoaaGreatDoorIC62
set_option linter.unusedSimpArgs false
set_option linter.unusedVariables false
set_option maxRecDepth 100000
noncomputable section
namespace Go.Ev.X
open Go Go.Ev
def iIn11 : CallT := (memoS im23 (memoS im24 (memoS im47 (memoS im26 (memoS im27 (memoS im28 (memoS im29 callA)))))))
theorem i_run11 : callS cx1 0 iIn11 6 argsI ⟨.h, .h, .e⟩ ⟨fc11, []⟩ endB = 0 := by decide +kernel
theorem iIn11_ok {E : Env} {P : Program} (hx : CxOk E P (tyOf P) cx1) (h1 : CallOk E P call1) (hl : CallOk E P callA) (hf : FaOk E ⟨fc11, []⟩) : CallOk E P iIn11 := (msS_ok rfl it23 FaOk.nil h1 (msS_ok rfl it24 FaOk.nil h1 (msS_ok rfl it47 hf h1 (msS_ok rfl it26 FaOk.nil h1 (msS_ok rfl it27 FaOk.nil h1 (msS_ok rfl it28 FaOk.nil h1 (msS_ok rfl it29 FaOk.nil h1 hl)))))))
end Go.Ev.X
end
/-
  A case of the law, over its calls.
-/
set_option linter.unusedSimpArgs false
set_option linter.unusedVariables false
set_option maxRecDepth 100000
noncomputable section
namespace Go.Ev.X
open Go Go.Ev
def iIn12 : CallT := (memoS im23 (memoS im24 (memoS im48 (memoS im26 (memoS im27 (memoS im28 (memoS im29 callA)))))))
theorem i_run12 : callS cx1 0 iIn12 6 argsI ⟨.h, .h, .e⟩ ⟨fc12, []⟩ endB = 0 := by decide +kernel
theorem iIn12_ok {E : Env} {P : Program} (hx : CxOk E P (tyOf P) cx1) (h1 : CallOk E P call1) (hl : CallOk E P callA) (hf : FaOk E ⟨fc12, []⟩) : CallOk E P iIn12 := (msS_ok rfl it23 FaOk.nil h1 (msS_ok rfl it24 FaOk.nil h1 (msS_ok rfl it48 hf h1 (msS_ok rfl it26 FaOk.nil h1 (msS_ok rfl it27 FaOk.nil h1 (msS_ok rfl it28 FaOk.nil h1 (msS_ok rfl it29 FaOk.nil h1 hl)))))))
end Go.Ev.X
end
/-
  A case of the law, over its calls.
-/
set_option linter.unusedSimpArgs false
set_option linter.unusedVariables false
set_option maxRecDepth 100000
noncomputable section
namespace Go.Ev.X
open Go Go.Ev
def iIn13 : CallT := (memoS im23 (memoS im24 (memoS im49 (memoS im31 (memoS im32 (memoS im33 (memoS im34 callA)))))))
theorem i_run13 : callS cx1 0 iIn13 6 argsI ⟨.h, .h, .e⟩ ⟨fc13, []⟩ endB = 0 := by decide +kernel
theorem iIn13_ok {E : Env} {P : Program} (hx : CxOk E P (tyOf P) cx1) (h1 : CallOk E P call1) (hl : CallOk E P callA) (hf : FaOk E ⟨fc13, []⟩) : CallOk E P iIn13 := (msS_ok rfl it23 FaOk.nil h1 (msS_ok rfl it24 FaOk.nil h1 (msS_ok rfl it49 hf h1 (msS_ok rfl it31 FaOk.nil h1 (msS_ok rfl it32 FaOk.nil h1 (msS_ok rfl it33 FaOk.nil h1 (msS_ok rfl it34 FaOk.nil h1 hl)))))))
end Go.Ev.X
end
/-
  A case of the law, over its calls.
-/
set_option linter.unusedSimpArgs false
set_option linter.unusedVariables false
set_option maxRecDepth 100000
noncomputable section
namespace Go.Ev.X
open Go Go.Ev
def iIn14 : CallT := (memoS im23 (memoS im24 (memoS im50 (memoS im26 (memoS im27 (memoS im28 (memoS im29 callA)))))))
theorem i_run14 : callS cx1 0 iIn14 6 argsI ⟨.h, .h, .e⟩ ⟨fc14, []⟩ endB = 0 := by decide +kernel
theorem iIn14_ok {E : Env} {P : Program} (hx : CxOk E P (tyOf P) cx1) (h1 : CallOk E P call1) (hl : CallOk E P callA) (hf : FaOk E ⟨fc14, []⟩) : CallOk E P iIn14 := (msS_ok rfl it23 FaOk.nil h1 (msS_ok rfl it24 FaOk.nil h1 (msS_ok rfl it50 hf h1 (msS_ok rfl it26 FaOk.nil h1 (msS_ok rfl it27 FaOk.nil h1 (msS_ok rfl it28 FaOk.nil h1 (msS_ok rfl it29 FaOk.nil h1 hl)))))))
end Go.Ev.X
end
/-
  A case of the law, over its calls.
-/
set_option linter.unusedSimpArgs false
set_option linter.unusedVariables false
set_option maxRecDepth 100000
noncomputable section
namespace Go.Ev.X
open Go Go.Ev
def iIn15 : CallT := (memoS im23 (memoS im24 (memoS im51 (memoS im26 (memoS im27 (memoS im28 (memoS im29 callA)))))))
theorem i_run15 : callS cx1 0 iIn15 6 argsI ⟨.h, .h, .e⟩ ⟨fc15, []⟩ endB = 0 := by decide +kernel
theorem iIn15_ok {E : Env} {P : Program} (hx : CxOk E P (tyOf P) cx1) (h1 : CallOk E P call1) (hl : CallOk E P callA) (hf : FaOk E ⟨fc15, []⟩) : CallOk E P iIn15 := (msS_ok rfl it23 FaOk.nil h1 (msS_ok rfl it24 FaOk.nil h1 (msS_ok rfl it51 hf h1 (msS_ok rfl it26 FaOk.nil h1 (msS_ok rfl it27 FaOk.nil h1 (msS_ok rfl it28 FaOk.nil h1 (msS_ok rfl it29 FaOk.nil h1 hl)))))))
end Go.Ev.X
end
/-
  A case of the law, over its calls.
-/
set_option linter.unusedSimpArgs false
set_option linter.unusedVariables false
set_option maxRecDepth 100000
noncomputable section
namespace Go.Ev.X
open Go Go.Ev
def iIn16 : CallT := (memoS im23 (memoS im24 (memoS im52 (memoS im53 (memoS im54 (memoS im55 (memoS im56 callA)))))))
theorem i_run16 : callS cx1 0 iIn16 6 argsI ⟨.h, .h, .e⟩ ⟨fc16, []⟩ endB = 0 := by decide +kernel
theorem iIn16_ok {E : Env} {P : Program} (hx : CxOk E P (tyOf P) cx1) (h1 : CallOk E P call1) (hl : CallOk E P callA) (hf : FaOk E ⟨fc16, []⟩) : CallOk E P iIn16 := (msS_ok rfl it23 FaOk.nil h1 (msS_ok rfl it24 FaOk.nil h1 (msS_ok rfl it52 hf h1 (msS_ok rfl it53 FaOk.nil h1 (msS_ok rfl it54 FaOk.nil h1 (msS_ok rfl it55 FaOk.nil h1 (msS_ok rfl it56 FaOk.nil h1 hl)))))))
end Go.Ev.X
end
/-
  A case of the law, over its calls.
-/
set_option linter.unusedSimpArgs false
set_option linter.unusedVariables false
set_option maxRecDepth 100000
noncomputable section
namespace Go.Ev.X
open Go Go.Ev
def iIn17 : CallT := (memoS im23 (memoS im24 (memoS im57 (memoS im26 (memoS im27 (memoS im28 (memoS im29 callA)))))))
theorem i_run17 : callS cx1 0 iIn17 6 argsI ⟨.h, .h, .e⟩ ⟨fc17, []⟩ endB = 0 := by decide +kernel
theorem iIn17_ok {E : Env} {P : Program} (hx : CxOk E P (tyOf P) cx1) (h1 : CallOk E P call1) (hl : CallOk E P callA) (hf : FaOk E ⟨fc17, []⟩) : CallOk E P iIn17 := (msS_ok rfl it23 FaOk.nil h1 (msS_ok rfl it24 FaOk.nil h1 (msS_ok rfl it57 hf h1 (msS_ok rfl it26 FaOk.nil h1 (msS_ok rfl it27 FaOk.nil h1 (msS_ok rfl it28 FaOk.nil h1 (msS_ok rfl it29 FaOk.nil h1 hl)))))))
end Go.Ev.X
end
/-
  A case of the law, over its calls.
-/
set_option linter.unusedSimpArgs false
set_option linter.unusedVariables false
set_option maxRecDepth 100000
noncomputable section
namespace Go.Ev.X
open Go Go.Ev
def iIn18 : CallT := (memoS im23 (memoS im24 (memoS im58 (memoS im26 (memoS im27 (memoS im28 (memoS im29 callA)))))))
theorem i_run18 : callS cx1 0 iIn18 6 argsI ⟨.h, .h, .e⟩ ⟨fc18, []⟩ endB = 0 := by decide +kernel
theorem iIn18_ok {E : Env} {P : Program} (hx : CxOk E P (tyOf P) cx1) (h1 : CallOk E P call1) (hl : CallOk E P callA) (hf : FaOk E ⟨fc18, []⟩) : CallOk E P iIn18 := (msS_ok rfl it23 FaOk.nil h1 (msS_ok rfl it24 FaOk.nil h1 (msS_ok rfl it58 hf h1 (msS_ok rfl it26 FaOk.nil h1 (msS_ok rfl it27 FaOk.nil h1 (msS_ok rfl it28 FaOk.nil h1 (msS_ok rfl it29 FaOk.nil h1 hl)))))))
end Go.Ev.X
end
/-
  A case of the law, over its calls.
-/
set_option linter.unusedSimpArgs false
set_option linter.unusedVariables false
set_option maxRecDepth 100000
noncomputable section
namespace Go.Ev.X
open Go Go.Ev
def iIn19 : CallT := (memoS im23 (memoS im24 (memoS im59 (memoS im60 (memoS im61 (memoS im62 (memoS im63 callA)))))))
theorem i_run19 : callS cx1 0 iIn19 6 argsI ⟨.h, .h, .e⟩ ⟨fc19, []⟩ endB = 0 := by decide +kernel
theorem iIn19_ok {E : Env} {P : Program} (hx : CxOk E P (tyOf P) cx1) (h1 : CallOk E P call1) (hl : CallOk E P callA) (hf : FaOk E ⟨fc19, []⟩) : CallOk E P iIn19 := (msS_ok rfl it23 FaOk.nil h1 (msS_ok rfl it24 FaOk.nil h1 (msS_ok rfl it59 hf h1 (msS_ok rfl it60 FaOk.nil h1 (msS_ok rfl it61 FaOk.nil h1 (msS_ok rfl it62 FaOk.nil h1 (msS_ok rfl it63 FaOk.nil h1 hl)))))))
end Go.Ev.X
end
/-
  A case of the law, over its calls.
-/
set_option linter.unusedSimpArgs false
set_option linter.unusedVariables false
set_option maxRecDepth 100000
noncomputable section
namespace Go.Ev.X
open Go Go.Ev
def iIn20 : CallT := (memoS im23 (memoS im24 (memoS im64 (memoS im60 (memoS im61 (memoS im62 (memoS im63 callA)))))))
theorem i_run20 : callS cx1 0 iIn20 6 argsI ⟨.h, .h, .e⟩ ⟨fc20, []⟩ endB = 0 := by decide +kernel
theorem iIn20_ok {E : Env} {P : Program} (hx : CxOk E P (tyOf P) cx1) (h1 : CallOk E P call1) (hl : CallOk E P callA) (hf : FaOk E ⟨fc20, []⟩) : CallOk E P iIn20 := (msS_ok rfl it23 FaOk.nil h1 (msS_ok rfl it24 FaOk.nil h1 (msS_ok rfl it64 hf h1 (msS_ok rfl it60 FaOk.nil h1 (msS_ok rfl it61 FaOk.nil h1 (msS_ok rfl it62 FaOk.nil h1 (msS_ok rfl it63 FaOk.nil h1 hl)))))))
end Go.Ev.X
end
