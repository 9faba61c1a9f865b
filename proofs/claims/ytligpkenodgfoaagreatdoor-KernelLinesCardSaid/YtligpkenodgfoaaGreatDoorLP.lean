/-
  Runs of the law.
-/
import Derived.Test.YtligpkenodgfoaaGreatDoorLS
set_option linter.unusedSimpArgs false
set_option linter.unusedVariables false
set_option maxRecDepth 100000
noncomputable section
namespace Go.Ev.X
open Go Go.Ev
theorem pk16_0 : callS cx1 0 call1 10 [.si .i64 (.v 0), .i .i64 16] ⟨.h, .h, .e⟩ ⟨[(.cmp .lss (.v 0) (.lit 0), false)], []⟩ (endV (.si .i64 (.op .rem .i64 (.v 0) (.lit 16)))) = 0 := by decide +kernel
theorem pk16_1 : callS cx1 0 call1 10 [.si .i64 (.v 0), .i .i64 16] ⟨.h, .h, .e⟩ ⟨[(.cmp .lss (.v 0) (.lit 0), true)], []⟩ (endV (.si .i64 (.op .rem .i64 (.op .sub .i64 (.lit 0) (.op .add .i64 (.v 0) (.lit 1))) (.lit 16)))) = 0 := by decide +kernel
theorem pk268435456_0 : callS cx1 0 call1 10 [.si .i64 (.v 0), .i .i64 268435456] ⟨.h, .h, .e⟩ ⟨[(.cmp .lss (.v 0) (.lit 0), false)], []⟩ (endV (.si .i64 (.op .rem .i64 (.v 0) (.lit 268435456)))) = 0 := by decide +kernel
theorem pk268435456_1 : callS cx1 0 call1 10 [.si .i64 (.v 0), .i .i64 268435456] ⟨.h, .h, .e⟩ ⟨[(.cmp .lss (.v 0) (.lit 0), true)], []⟩ (endV (.si .i64 (.op .rem .i64 (.op .sub .i64 (.lit 0) (.op .add .i64 (.v 0) (.lit 1))) (.lit 268435456)))) = 0 := by decide +kernel
theorem pk5_0 : callS cx1 0 call1 10 [.si .i64 (.v 0), .i .i64 5] ⟨.h, .h, .e⟩ ⟨[(.cmp .lss (.v 0) (.lit 0), false)], []⟩ (endV (.si .i64 (.op .rem .i64 (.v 0) (.lit 5)))) = 0 := by decide +kernel
theorem pk5_1 : callS cx1 0 call1 10 [.si .i64 (.v 0), .i .i64 5] ⟨.h, .h, .e⟩ ⟨[(.cmp .lss (.v 0) (.lit 0), true)], []⟩ (endV (.si .i64 (.op .rem .i64 (.op .sub .i64 (.lit 0) (.op .add .i64 (.v 0) (.lit 1))) (.lit 5)))) = 0 := by decide +kernel
end Go.Ev.X
end
