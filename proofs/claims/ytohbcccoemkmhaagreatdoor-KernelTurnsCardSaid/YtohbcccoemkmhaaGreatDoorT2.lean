/-
  A piece of the law's run, over its calls.
-/
import Derived.Test.YtohbcccoemkmhaaGreatDoorC36
import Derived.Test.YtohbcccoemkmhaaGreatDoorC51
import Derived.Test.YtohbcccoemkmhaaGreatDoorTS
import Derived.Test.YtohbcccoemkmhaaGreatDoorC43
set_option linter.unusedSimpArgs false
set_option linter.unusedVariables false
set_option maxRecDepth 100000
noncomputable section
namespace Go.Ev.X
open Go Go.Ev
def gAt5 : CallT := (memoS gm38 (memoS gm39 (memoS gm40 (memoS gm63 (memoS gm64 call1)))))
theorem g_go5 : runJ stT xiT ziT (koB rsT) ⟨gAt5, 3, 20000⟩ 5 ⟨[(.cmp .lss (.v 4) (.v 5), true)], []⟩ [(6, sg5)] = 0 := by decide +kernel
theorem g_out5 : runJ stT xiT ziT (koB rsT) ⟨gAt5, 3, 20000⟩ 5 ⟨flO, []⟩ [] = 0 := by decide +kernel
theorem gAt5_ok {E : Env} {P : Program} (hx : CxOk E P (tyOf P) cx1) (h1 : CallOk E P call1) : CallOk E P gAt5 := (msS_ok rfl gt38 FaOk.nil h1 (msS_ok rfl gt39 FaOk.nil h1 (msS_ok rfl gt40 FaOk.nil h1 (msS_ok rfl gt63 FaOk.nil h1 (msS_ok rfl gt64 FaOk.nil h1 h1)))))
end Go.Ev.X
end
/-
  A piece of the law's run, over its calls.
-/
set_option linter.unusedSimpArgs false
set_option linter.unusedVariables false
set_option maxRecDepth 100000
noncomputable section
namespace Go.Ev.X
open Go Go.Ev
def gAt6 : CallT := (memoS gm41 (memoS gm42 (memoS gm43 (memoS gm65 (memoS gm66 call1)))))
theorem g_go6 : runJ stT xiT ziT (koB rsT) ⟨gAt6, 3, 20000⟩ 6 ⟨[(.cmp .lss (.v 4) (.v 5), true)], []⟩ [(7, sg6)] = 0 := by decide +kernel
theorem g_out6 : runJ stT xiT ziT (koB rsT) ⟨gAt6, 3, 20000⟩ 6 ⟨flO, []⟩ [] = 0 := by decide +kernel
theorem gAt6_ok {E : Env} {P : Program} (hx : CxOk E P (tyOf P) cx1) (h1 : CallOk E P call1) : CallOk E P gAt6 := (msS_ok rfl gt41 FaOk.nil h1 (msS_ok rfl gt42 FaOk.nil h1 (msS_ok rfl gt43 FaOk.nil h1 (msS_ok rfl gt65 FaOk.nil h1 (msS_ok rfl gt66 FaOk.nil h1 h1)))))
end Go.Ev.X
end
/-
  A piece of the law's run, over its calls.
-/
set_option linter.unusedSimpArgs false
set_option linter.unusedVariables false
set_option maxRecDepth 100000
noncomputable section
namespace Go.Ev.X
open Go Go.Ev
def gAt7 : CallT := (memoS gm44 (memoS gm45 (memoS gm46 (memoS gm67 (memoS gm68 call1)))))
theorem g_go7 : runJ stT xiT ziT (koB rsT) ⟨gAt7, 3, 20000⟩ 7 ⟨[(.cmp .lss (.v 4) (.v 5), true)], []⟩ [(8, sg7)] = 0 := by decide +kernel
theorem g_out7 : runJ stT xiT ziT (koB rsT) ⟨gAt7, 3, 20000⟩ 7 ⟨flO, []⟩ [] = 0 := by decide +kernel
theorem gAt7_ok {E : Env} {P : Program} (hx : CxOk E P (tyOf P) cx1) (h1 : CallOk E P call1) : CallOk E P gAt7 := (msS_ok rfl gt44 FaOk.nil h1 (msS_ok rfl gt45 FaOk.nil h1 (msS_ok rfl gt46 FaOk.nil h1 (msS_ok rfl gt67 FaOk.nil h1 (msS_ok rfl gt68 FaOk.nil h1 h1)))))
end Go.Ev.X
end
/-
  A piece of the law's run, over its calls.
-/
set_option linter.unusedSimpArgs false
set_option linter.unusedVariables false
set_option maxRecDepth 100000
noncomputable section
namespace Go.Ev.X
open Go Go.Ev
def gAt8 : CallT := (memoS gm47 (memoS gm48 (memoS gm49 (memoS gm69 (memoS gm70 call1)))))
theorem g_go8 : runJ stT xiT ziT (koB rsT) ⟨gAt8, 3, 20000⟩ 8 ⟨[(.cmp .lss (.v 4) (.v 5), true)], []⟩ [(9, sg8)] = 0 := by decide +kernel
theorem g_out8 : runJ stT xiT ziT (koB rsT) ⟨gAt8, 3, 20000⟩ 8 ⟨flO, []⟩ [] = 0 := by decide +kernel
theorem gAt8_ok {E : Env} {P : Program} (hx : CxOk E P (tyOf P) cx1) (h1 : CallOk E P call1) : CallOk E P gAt8 := (msS_ok rfl gt47 FaOk.nil h1 (msS_ok rfl gt48 FaOk.nil h1 (msS_ok rfl gt49 FaOk.nil h1 (msS_ok rfl gt69 FaOk.nil h1 (msS_ok rfl gt70 FaOk.nil h1 h1)))))
end Go.Ev.X
end
/-
  A piece of the law's run, over its calls.
-/
set_option linter.unusedSimpArgs false
set_option linter.unusedVariables false
set_option maxRecDepth 100000
noncomputable section
namespace Go.Ev.X
open Go Go.Ev
def gAt9 : CallT := (memoS gm50 (memoS gm51 (memoS gm52 (memoS gm71 (memoS gm72 call1)))))
theorem g_go9 : runJ stT xiT ziT (koB rsT) ⟨gAt9, 3, 20000⟩ 9 ⟨[(.cmp .lss (.v 4) (.v 5), true)], []⟩ [(0, sg9)] = 0 := by decide +kernel
theorem g_out9 : runJ stT xiT ziT (koB rsT) ⟨gAt9, 3, 20000⟩ 9 ⟨flO, []⟩ [] = 0 := by decide +kernel
theorem gAt9_ok {E : Env} {P : Program} (hx : CxOk E P (tyOf P) cx1) (h1 : CallOk E P call1) : CallOk E P gAt9 := (msS_ok rfl gt50 FaOk.nil h1 (msS_ok rfl gt51 FaOk.nil h1 (msS_ok rfl gt52 FaOk.nil h1 (msS_ok rfl gt71 FaOk.nil h1 (msS_ok rfl gt72 FaOk.nil h1 h1)))))
end Go.Ev.X
end
