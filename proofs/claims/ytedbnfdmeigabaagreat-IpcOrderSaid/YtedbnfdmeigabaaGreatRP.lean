/-
  Which one is picked.
-/
import Derived.Test.YtedbnfdmeigabaaGreatRS
set_option linter.unusedSimpArgs false
set_option linter.unusedVariables false
set_option maxRecDepth 100000
noncomputable section
namespace Go.Ev.X
open Go Go.Ev
theorem pk3_0 : callS cx1 0 call1 10 [.si .i64 (.v 0), .i .i64 3] ⟨.h, .h, .e⟩ ⟨[(.cmp .lss (.v 0) (.lit 0), false)], []⟩ (endV (.si .i64 (.op .rem .i64 (.v 0) (.lit 3)))) = 0 := by decide +kernel
theorem pk3_1 : callS cx1 0 call1 10 [.si .i64 (.v 0), .i .i64 3] ⟨.h, .h, .e⟩ ⟨[(.cmp .lss (.v 0) (.lit 0), true)], []⟩ (endV (.si .i64 (.op .rem .i64 (.op .sub .i64 (.lit 0) (.op .add .i64 (.v 0) (.lit 1))) (.lit 3)))) = 0 := by decide +kernel
theorem pk1000_0 : callS cx1 0 call1 10 [.si .i64 (.v 0), .i .i64 1000] ⟨.h, .h, .e⟩ ⟨[(.cmp .lss (.v 0) (.lit 0), false)], []⟩ (endV (.si .i64 (.op .rem .i64 (.v 0) (.lit 1000)))) = 0 := by decide +kernel
theorem pk1000_1 : callS cx1 0 call1 10 [.si .i64 (.v 0), .i .i64 1000] ⟨.h, .h, .e⟩ ⟨[(.cmp .lss (.v 0) (.lit 0), true)], []⟩ (endV (.si .i64 (.op .rem .i64 (.op .sub .i64 (.lit 0) (.op .add .i64 (.v 0) (.lit 1))) (.lit 1000)))) = 0 := by decide +kernel
end Go.Ev.X
end
