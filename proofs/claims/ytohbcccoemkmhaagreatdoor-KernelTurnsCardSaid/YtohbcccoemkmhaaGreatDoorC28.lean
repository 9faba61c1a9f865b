/-
  What calls come to.
-/
import Derived.Test.YtohbcccoemkmhaaGreatDoorGH
set_option linter.unusedSimpArgs false
set_option linter.unusedVariables false
set_option maxRecDepth 100000
noncomputable section
namespace Go.Ev.X
open Go Go.Ev
theorem gt28 : gm28.run call1 ⟨[], []⟩ = 0 := by decide +kernel
theorem gt29 : gm29.run call1 ⟨[], []⟩ = 0 := by decide +kernel
end Go.Ev.X
end
/-
  What calls come to.
-/
set_option linter.unusedSimpArgs false
set_option linter.unusedVariables false
set_option maxRecDepth 100000
noncomputable section
namespace Go.Ev.X
open Go Go.Ev
theorem gt30 : gm30.run call1 ⟨[], []⟩ = 0 := by decide +kernel
end Go.Ev.X
end
/-
  What calls come to.
-/
set_option linter.unusedSimpArgs false
set_option linter.unusedVariables false
set_option maxRecDepth 100000
noncomputable section
namespace Go.Ev.X
open Go Go.Ev
theorem gt31 : gm31.run call1 ⟨[], []⟩ = 0 := by decide +kernel
theorem gt32 : gm32.run call1 ⟨[], []⟩ = 0 := by decide +kernel
end Go.Ev.X
end
/-
  What calls come to.
-/
set_option linter.unusedSimpArgs false
set_option linter.unusedVariables false
set_option maxRecDepth 100000
noncomputable section
namespace Go.Ev.X
open Go Go.Ev
theorem gt33 : gm33.run call1 ⟨[], []⟩ = 0 := by decide +kernel
end Go.Ev.X
end
/-
  What calls come to.
-/
set_option linter.unusedSimpArgs false
set_option linter.unusedVariables false
set_option maxRecDepth 100000
noncomputable section
namespace Go.Ev.X
open Go Go.Ev
theorem gt34 : gm34.run call1 ⟨[], []⟩ = 0 := by decide +kernel
theorem gt35 : gm35.run call1 ⟨[], []⟩ = 0 := by decide +kernel
end Go.Ev.X
end
