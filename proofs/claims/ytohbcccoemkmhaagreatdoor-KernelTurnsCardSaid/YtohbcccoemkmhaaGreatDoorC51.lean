/-
  What calls come to.
-/
import Derived.Test.YtohbcccoemkmhaaGreatDoorGH
set_option linter.unusedSimpArgs false
set_option linter.unusedVariables false
set_option maxRecDepth 100000
noncomputable section
namespace Go.Ev.X
open Go Go.Ev
theorem gt52 : gm52.run call1 ⟨[], []⟩ = 0 := by decide +kernel
theorem gt53 : gm53.run call1 ⟨[], []⟩ = 0 := by decide +kernel
theorem gt54 : gm54.run call1 ⟨[], []⟩ = 0 := by decide +kernel
theorem gt55 : gm55.run call1 ⟨[], []⟩ = 0 := by decide +kernel
theorem gt56 : gm56.run call1 ⟨[], []⟩ = 0 := by decide +kernel
theorem gt57 : gm57.run call1 ⟨[], []⟩ = 0 := by decide +kernel
end Go.Ev.X
end
/-
  What calls come to.
-/
set_option linter.unusedSimpArgs false
set_option linter.unusedVariables false
set_option maxRecDepth 100000
noncomputable section
namespace Go.Ev.X
open Go Go.Ev
theorem gt58 : gm58.run call1 ⟨[], []⟩ = 0 := by decide +kernel
theorem gt59 : gm59.run call1 ⟨[], []⟩ = 0 := by decide +kernel
theorem gt60 : gm60.run call1 ⟨[], []⟩ = 0 := by decide +kernel
theorem gt61 : gm61.run call1 ⟨[], []⟩ = 0 := by decide +kernel
theorem gt62 : gm62.run call1 ⟨[], []⟩ = 0 := by decide +kernel
theorem gt63 : gm63.run call1 ⟨[], []⟩ = 0 := by decide +kernel
theorem gt64 : gm64.run call1 ⟨[], []⟩ = 0 := by decide +kernel
theorem gt65 : gm65.run call1 ⟨[], []⟩ = 0 := by decide +kernel
theorem gt66 : gm66.run call1 ⟨[], []⟩ = 0 := by decide +kernel
theorem gt67 : gm67.run call1 ⟨[], []⟩ = 0 := by decide +kernel
theorem gt68 : gm68.run call1 ⟨[], []⟩ = 0 := by decide +kernel
theorem gt69 : gm69.run call1 ⟨[], []⟩ = 0 := by decide +kernel
end Go.Ev.X
end
/-
  What calls come to.
-/
set_option linter.unusedSimpArgs false
set_option linter.unusedVariables false
set_option maxRecDepth 100000
noncomputable section
namespace Go.Ev.X
open Go Go.Ev
theorem gt70 : gm70.run call1 ⟨[], []⟩ = 0 := by decide +kernel
theorem gt71 : gm71.run call1 ⟨[], []⟩ = 0 := by decide +kernel
theorem gt72 : gm72.run call1 ⟨[], []⟩ = 0 := by decide +kernel
end Go.Ev.X
end
/-
  What calls come to.
-/
set_option linter.unusedSimpArgs false
set_option linter.unusedVariables false
set_option maxRecDepth 100000
noncomputable section
namespace Go.Ev.X
open Go Go.Ev
theorem gt51 : gm51.run call1 ⟨[], []⟩ = 0 := by decide +kernel
end Go.Ev.X
end
