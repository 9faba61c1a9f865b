/-
  A piece of the law's run, over its calls.
-/
import Derived.Test.YtohbcccoemkmhaaGreatDoorC21
import Derived.Test.YtohbcccoemkmhaaGreatDoorC51
import Derived.Test.YtohbcccoemkmhaaGreatDoorTS
import Derived.Test.YtohbcccoemkmhaaGreatDoorC28
import Derived.Test.YtohbcccoemkmhaaGreatDoorC36
set_option linter.unusedSimpArgs false
set_option linter.unusedVariables false
set_option maxRecDepth 100000
noncomputable section
namespace Go.Ev.X
open Go Go.Ev
def gAt0 : CallT := (memoS gm23 (memoS gm24 (memoS gm25 (memoS gm53 (memoS gm54 call1)))))
theorem g_go0 : runJ stT xiT ziT (koB rsT) ⟨gAt0, 3, 20000⟩ 0 ⟨[(.cmp .lss (.v 4) (.v 5), true)], []⟩ [(1, sg0)] = 0 := by decide +kernel
theorem g_out0 : runJ stT xiT ziT (koB rsT) ⟨gAt0, 3, 20000⟩ 0 ⟨flO, []⟩ [] = 0 := by decide +kernel
theorem gAt0_ok {E : Env} {P : Program} (hx : CxOk E P (tyOf P) cx1) (h1 : CallOk E P call1) : CallOk E P gAt0 := (msS_ok rfl gt23 FaOk.nil h1 (msS_ok rfl gt24 FaOk.nil h1 (msS_ok rfl gt25 FaOk.nil h1 (msS_ok rfl gt53 FaOk.nil h1 (msS_ok rfl gt54 FaOk.nil h1 h1)))))
end Go.Ev.X
end
/-
  A piece of the law's run, over its calls.
-/
set_option linter.unusedSimpArgs false
set_option linter.unusedVariables false
set_option maxRecDepth 100000
noncomputable section
namespace Go.Ev.X
open Go Go.Ev
def gAt1 : CallT := (memoS gm26 (memoS gm27 (memoS gm28 (memoS gm55 (memoS gm56 call1)))))
theorem g_go1 : runJ stT xiT ziT (koB rsT) ⟨gAt1, 3, 20000⟩ 1 ⟨[(.cmp .lss (.v 4) (.v 5), true)], []⟩ [(2, sg1)] = 0 := by decide +kernel
theorem g_out1 : runJ stT xiT ziT (koB rsT) ⟨gAt1, 3, 20000⟩ 1 ⟨flO, []⟩ [] = 0 := by decide +kernel
theorem gAt1_ok {E : Env} {P : Program} (hx : CxOk E P (tyOf P) cx1) (h1 : CallOk E P call1) : CallOk E P gAt1 := (msS_ok rfl gt26 FaOk.nil h1 (msS_ok rfl gt27 FaOk.nil h1 (msS_ok rfl gt28 FaOk.nil h1 (msS_ok rfl gt55 FaOk.nil h1 (msS_ok rfl gt56 FaOk.nil h1 h1)))))
end Go.Ev.X
end
/-
  A piece of the law's run, over its calls.
-/
set_option linter.unusedSimpArgs false
set_option linter.unusedVariables false
set_option maxRecDepth 100000
noncomputable section
namespace Go.Ev.X
open Go Go.Ev
def gAt2 : CallT := (memoS gm29 (memoS gm30 (memoS gm31 (memoS gm57 (memoS gm58 call1)))))
theorem g_go2 : runJ stT xiT ziT (koB rsT) ⟨gAt2, 3, 20000⟩ 2 ⟨[(.cmp .lss (.v 4) (.v 5), true)], []⟩ [(3, sg2)] = 0 := by decide +kernel
theorem g_out2 : runJ stT xiT ziT (koB rsT) ⟨gAt2, 3, 20000⟩ 2 ⟨flO, []⟩ [] = 0 := by decide +kernel
theorem gAt2_ok {E : Env} {P : Program} (hx : CxOk E P (tyOf P) cx1) (h1 : CallOk E P call1) : CallOk E P gAt2 := (msS_ok rfl gt29 FaOk.nil h1 (msS_ok rfl gt30 FaOk.nil h1 (msS_ok rfl gt31 FaOk.nil h1 (msS_ok rfl gt57 FaOk.nil h1 (msS_ok rfl gt58 FaOk.nil h1 h1)))))
end Go.Ev.X
end
/-
  A piece of the law's run, over its calls.
-/
set_option linter.unusedSimpArgs false
set_option linter.unusedVariables false
set_option maxRecDepth 100000
noncomputable section
namespace Go.Ev.X
open Go Go.Ev
def gAt3 : CallT := (memoS gm32 (memoS gm33 (memoS gm34 (memoS gm59 (memoS gm60 call1)))))
theorem g_go3 : runJ stT xiT ziT (koB rsT) ⟨gAt3, 3, 20000⟩ 3 ⟨[(.cmp .lss (.v 4) (.v 5), true)], []⟩ [(4, sg3)] = 0 := by decide +kernel
theorem g_out3 : runJ stT xiT ziT (koB rsT) ⟨gAt3, 3, 20000⟩ 3 ⟨flO, []⟩ [] = 0 := by decide +kernel
theorem gAt3_ok {E : Env} {P : Program} (hx : CxOk E P (tyOf P) cx1) (h1 : CallOk E P call1) : CallOk E P gAt3 := (msS_ok rfl gt32 FaOk.nil h1 (msS_ok rfl gt33 FaOk.nil h1 (msS_ok rfl gt34 FaOk.nil h1 (msS_ok rfl gt59 FaOk.nil h1 (msS_ok rfl gt60 FaOk.nil h1 h1)))))
end Go.Ev.X
end
/-
  A piece of the law's run, over its calls.
-/
set_option linter.unusedSimpArgs false
set_option linter.unusedVariables false
set_option maxRecDepth 100000
noncomputable section
namespace Go.Ev.X
open Go Go.Ev
def gAt4 : CallT := (memoS gm35 (memoS gm36 (memoS gm37 (memoS gm61 (memoS gm62 call1)))))
theorem g_go4 : runJ stT xiT ziT (koB rsT) ⟨gAt4, 3, 20000⟩ 4 ⟨[(.cmp .lss (.v 4) (.v 5), true)], []⟩ [(5, sg4)] = 0 := by decide +kernel
theorem g_out4 : runJ stT xiT ziT (koB rsT) ⟨gAt4, 3, 20000⟩ 4 ⟨flO, []⟩ [] = 0 := by decide +kernel
theorem gAt4_ok {E : Env} {P : Program} (hx : CxOk E P (tyOf P) cx1) (h1 : CallOk E P call1) : CallOk E P gAt4 := (msS_ok rfl gt35 FaOk.nil h1 (msS_ok rfl gt36 FaOk.nil h1 (msS_ok rfl gt37 FaOk.nil h1 (msS_ok rfl gt61 FaOk.nil h1 (msS_ok rfl gt62 FaOk.nil h1 h1)))))
end Go.Ev.X
end
