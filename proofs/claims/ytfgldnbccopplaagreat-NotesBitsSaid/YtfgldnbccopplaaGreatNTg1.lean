/-
  A piece of the law's run, over its calls.
-/
import Derived.Test.YtfgldnbccopplaaGreatNH
set_option linter.unusedSimpArgs false
set_option linter.unusedVariables false
set_option maxRecDepth 100000
noncomputable section
namespace Go.Ev.X
open Go Go.Ev
theorem n_go6z0 : runJ stT xiT ziT (koB rsT) ⟨call1, 3, 20000⟩ 6 fZ0 [(8, sgAZ), (9, sgAZ)] = 0 := by decide +kernel
theorem n_go6z1 : runJ stT xiT ziT (koB rsT) ⟨call1, 3, 20000⟩ 6 fZ1 [(8, sgAZ), (9, sgAZ)] = 0 := by decide +kernel
theorem n_go6p0 : runJ stT xiT ziT (koB rsT) ⟨call1, 3, 20000⟩ 6 fP0 [(10, sgA0), (11, sgA0)] = 0 := by decide +kernel
theorem n_go6p1 : runJ stT xiT ziT (koB rsT) ⟨call1, 3, 20000⟩ 6 fP1 [(10, sgA1), (11, sgA1)] = 0 := by decide +kernel
theorem n_go8z0 : runJ stT xiT ziT (koB rsT) ⟨call1, 3, 20000⟩ 8 fZ0 [(8, sgZZ), (9, sgZZ)] = 0 := by decide +kernel
theorem n_go8z1 : runJ stT xiT ziT (koB rsT) ⟨call1, 3, 20000⟩ 8 fZ1 [(8, sgZZ), (9, sgZZ)] = 0 := by decide +kernel
theorem n_go8p0 : runJ stT xiT ziT (koB rsT) ⟨call1, 3, 20000⟩ 8 fP0 [(10, sgZ0), (11, sgZ0)] = 0 := by decide +kernel
theorem n_go8p1 : runJ stT xiT ziT (koB rsT) ⟨call1, 3, 20000⟩ 8 fP1 [(10, sgZ1), (11, sgZ1)] = 0 := by decide +kernel
theorem n_go10q0 : runJ stT xiT ziT (koB rsT) ⟨call1, 3, 20000⟩ 10 fQ0 [(10, sgB0), (11, sgB0)] = 0 := by decide +kernel
theorem n_go10q1 : runJ stT xiT ziT (koB rsT) ⟨call1, 3, 20000⟩ 10 fQ1 [(10, sgB1), (11, sgB1)] = 0 := by decide +kernel
end Go.Ev.X
end
