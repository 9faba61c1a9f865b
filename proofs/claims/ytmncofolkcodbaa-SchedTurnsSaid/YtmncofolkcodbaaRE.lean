/-
  What is refused; which one is picked.
-/
import Derived.Test.YtmncofolkcodbaaST
set_option linter.unusedSimpArgs false
set_option linter.unusedVariables false
set_option maxRecDepth 100000
noncomputable section
namespace Go.Ev.X
open Go Go.Ev
theorem e1 : runE re1 = 0 := by decide +kernel
theorem e2 : runE re2 = 0 := by decide +kernel
theorem e3 : runE re3 = 0 := by decide +kernel
theorem e4 : runE re4 = 0 := by decide +kernel
theorem pk4_0 : callS cx1 0 call1 5 [.si .i64 (.v 0), .i .i64 4] ⟨.h, .h, .e⟩ ⟨[(.cmp .lss (.v 0) (.lit 0), false)], []⟩ (endV (.si .i64 (.op .rem .i64 (.v 0) (.lit 4)))) = 0 := by decide +kernel
theorem pk4_1 : callS cx1 0 call1 5 [.si .i64 (.v 0), .i .i64 4] ⟨.h, .h, .e⟩ ⟨[(.cmp .lss (.v 0) (.lit 0), true)], []⟩ (endV (.si .i64 (.op .rem .i64 (.op .sub .i64 (.lit 0) (.op .add .i64 (.v 0) (.lit 1))) (.lit 4)))) = 0 := by decide +kernel
end Go.Ev.X
end
