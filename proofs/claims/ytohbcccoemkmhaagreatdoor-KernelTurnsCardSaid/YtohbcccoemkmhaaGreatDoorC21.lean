/-
  What calls come to.
-/
import Derived.Test.YtohbcccoemkmhaaGreatDoorGH
set_option linter.unusedSimpArgs false
set_option linter.unusedVariables false
set_option maxRecDepth 100000
noncomputable section
namespace Go.Ev.X
open Go Go.Ev
theorem gt21 : gm21.run call1 ⟨[], []⟩ = 0 := by decide +kernel
end Go.Ev.X
end
/-
  What calls come to.
-/
set_option linter.unusedSimpArgs false
set_option linter.unusedVariables false
set_option maxRecDepth 100000
noncomputable section
namespace Go.Ev.X
open Go Go.Ev
theorem gt22 : gm22.run call1 ⟨[], []⟩ = 0 := by decide +kernel
theorem gt23 : gm23.run call1 ⟨[], []⟩ = 0 := by decide +kernel
end Go.Ev.X
end
/-
  What calls come to.
-/
set_option linter.unusedSimpArgs false
set_option linter.unusedVariables false
set_option maxRecDepth 100000
noncomputable section
namespace Go.Ev.X
open Go Go.Ev
theorem gt24 : gm24.run call1 ⟨[], []⟩ = 0 := by decide +kernel
end Go.Ev.X
end
/-
  What calls come to.
-/
set_option linter.unusedSimpArgs false
set_option linter.unusedVariables false
set_option maxRecDepth 100000
noncomputable section
namespace Go.Ev.X
open Go Go.Ev
theorem gt25 : gm25.run call1 ⟨[], []⟩ = 0 := by decide +kernel
theorem gt26 : gm26.run call1 ⟨[], []⟩ = 0 := by decide +kernel
end Go.Ev.X
end
/-
  What calls come to.
-/
set_option linter.unusedSimpArgs false
set_option linter.unusedVariables false
set_option maxRecDepth 100000
noncomputable section
namespace Go.Ev.X
open Go Go.Ev
theorem gt27 : gm27.run call1 ⟨[], []⟩ = 0 := by decide +kernel
end Go.Ev.X
end
