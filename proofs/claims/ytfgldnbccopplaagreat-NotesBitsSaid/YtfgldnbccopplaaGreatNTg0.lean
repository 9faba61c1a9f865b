/-
  A piece of the law's run, over its calls.
-/
import Derived.Test.YtfgldnbccopplaaGreatNH
set_option linter.unusedSimpArgs false
set_option linter.unusedVariables false
set_option maxRecDepth 100000
noncomputable section
namespace Go.Ev.X
open Go Go.Ev
theorem n_go0z0 : runJ stT xiT ziT (koB rsT) ⟨call1, 3, 20000⟩ 0 fZ0 [(2, sgAZ), (3, sgAZ)] = 0 := by decide +kernel
theorem n_go0z1 : runJ stT xiT ziT (koB rsT) ⟨call1, 3, 20000⟩ 0 fZ1 [(2, sgAZ), (3, sgAZ)] = 0 := by decide +kernel
theorem n_go0p0 : runJ stT xiT ziT (koB rsT) ⟨call1, 3, 20000⟩ 0 fP0 [(4, sgA0), (5, sgA0)] = 0 := by decide +kernel
theorem n_go0p1 : runJ stT xiT ziT (koB rsT) ⟨call1, 3, 20000⟩ 0 fP1 [(4, sgA1), (5, sgA1)] = 0 := by decide +kernel
theorem n_go2z0 : runJ stT xiT ziT (koB rsT) ⟨call1, 3, 20000⟩ 2 fZ0 [(2, sgZZ), (3, sgZZ)] = 0 := by decide +kernel
theorem n_go2z1 : runJ stT xiT ziT (koB rsT) ⟨call1, 3, 20000⟩ 2 fZ1 [(2, sgZZ), (3, sgZZ)] = 0 := by decide +kernel
theorem n_go2p0 : runJ stT xiT ziT (koB rsT) ⟨call1, 3, 20000⟩ 2 fP0 [(4, sgZ0), (5, sgZ0)] = 0 := by decide +kernel
theorem n_go2p1 : runJ stT xiT ziT (koB rsT) ⟨call1, 3, 20000⟩ 2 fP1 [(4, sgZ1), (5, sgZ1)] = 0 := by decide +kernel
theorem n_go4q0 : runJ stT xiT ziT (koB rsT) ⟨call1, 3, 20000⟩ 4 fQ0 [(4, sgB0), (5, sgB0)] = 0 := by decide +kernel
theorem n_go4q1 : runJ stT xiT ziT (koB rsT) ⟨call1, 3, 20000⟩ 4 fQ1 [(4, sgB1), (5, sgB1)] = 0 := by decide +kernel
end Go.Ev.X
end
