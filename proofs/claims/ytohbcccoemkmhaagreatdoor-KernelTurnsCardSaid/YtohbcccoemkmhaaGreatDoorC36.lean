/-
  What calls come to.
-/
import Derived.Test.YtohbcccoemkmhaaGreatDoorGH
set_option linter.unusedSimpArgs false
set_option linter.unusedVariables false
set_option maxRecDepth 100000
noncomputable section
namespace Go.Ev.X
open Go Go.Ev
theorem gt36 : gm36.run call1 ⟨[], []⟩ = 0 := by decide +kernel
end Go.Ev.X
end
/-
  What calls come to.
-/
set_option linter.unusedSimpArgs false
set_option linter.unusedVariables false
set_option maxRecDepth 100000
noncomputable section
namespace Go.Ev.X
open Go Go.Ev
theorem gt37 : gm37.run call1 ⟨[], []⟩ = 0 := by decide +kernel
theorem gt38 : gm38.run call1 ⟨[], []⟩ = 0 := by decide +kernel
end Go.Ev.X
end
/-
  What calls come to.
-/
set_option linter.unusedSimpArgs false
set_option linter.unusedVariables false
set_option maxRecDepth 100000
noncomputable section
namespace Go.Ev.X
open Go Go.Ev
theorem gt39 : gm39.run call1 ⟨[], []⟩ = 0 := by decide +kernel
end Go.Ev.X
end
/-
  What calls come to.
-/
set_option linter.unusedSimpArgs false
set_option linter.unusedVariables false
set_option maxRecDepth 100000
noncomputable section
namespace Go.Ev.X
open Go Go.Ev
theorem gt40 : gm40.run call1 ⟨[], []⟩ = 0 := by decide +kernel
theorem gt41 : gm41.run call1 ⟨[], []⟩ = 0 := by decide +kernel
end Go.Ev.X
end
/-
  What calls come to.
-/
set_option linter.unusedSimpArgs false
set_option linter.unusedVariables false
set_option maxRecDepth 100000
noncomputable section
namespace Go.Ev.X
open Go Go.Ev
theorem gt42 : gm42.run call1 ⟨[], []⟩ = 0 := by decide +kernel
end Go.Ev.X
end
