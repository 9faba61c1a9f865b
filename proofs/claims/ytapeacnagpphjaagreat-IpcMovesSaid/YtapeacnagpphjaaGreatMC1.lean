/-
  What calls come to.
-/
import Derived.Test.YtapeacnagpphjaaGreatMH
set_option linter.unusedSimpArgs false
set_option linter.unusedVariables false
set_option maxRecDepth 100000
noncomputable section
namespace Go.Ev.X
open Go Go.Ev
theorem mt1 : mm1.run call1 ⟨flM, rrM⟩ = 0 := by decide +kernel
theorem mt2 : mm2.run call1 ⟨flM, rrM⟩ = 0 := by decide +kernel
theorem mt3 : mm3.run call1 ⟨flM, rrM⟩ = 0 := by decide +kernel
theorem mt4 : mm4.run call1 ⟨flM, rrM⟩ = 0 := by decide +kernel
theorem mt5 : mm5.run call1 ⟨flM, rrM⟩ = 0 := by decide +kernel
theorem mt6 : mm6.run call1 ⟨flM, rrM⟩ = 0 := by decide +kernel
theorem mt7 : mm7.run call1 ⟨flM, rrM⟩ = 0 := by decide +kernel
theorem mt8 : mm8.run call1 ⟨flM, rrM⟩ = 0 := by decide +kernel
theorem mt9 : mm9.run call1 ⟨flM, rrM⟩ = 0 := by decide +kernel
theorem mt10 : mm10.run call1 ⟨flM, rrM⟩ = 0 := by decide +kernel
theorem mt11 : mm11.run call1 ⟨flM, rrM⟩ = 0 := by decide +kernel
theorem mt12 : mm12.run call1 ⟨flM, rrM⟩ = 0 := by decide +kernel
theorem mt13 : mm13.run call1 ⟨flM, rrM⟩ = 0 := by decide +kernel
theorem mt14 : mm14.run call1 ⟨flM, rrM⟩ = 0 := by decide +kernel
theorem mt15 : mm15.run call1 ⟨flM, rrM⟩ = 0 := by decide +kernel
theorem mt16 : mm16.run call1 ⟨flM, rrM⟩ = 0 := by decide +kernel
theorem mt17 : mm17.run call1 ⟨flM, rrM⟩ = 0 := by decide +kernel
theorem mt18 : mm18.run call1 ⟨flM, rrM⟩ = 0 := by decide +kernel
theorem mt19 : mm19.run call1 ⟨flM, rrM⟩ = 0 := by decide +kernel
theorem mt20 : mm20.run call1 ⟨flM, rrM⟩ = 0 := by decide +kernel
theorem mt21 : mm21.run call1 ⟨flM, rrM⟩ = 0 := by decide +kernel
theorem mt22 : mm22.run call1 ⟨flM, rrM⟩ = 0 := by decide +kernel
end Go.Ev.X
end
/-
  What calls come to.
-/
set_option linter.unusedSimpArgs false
set_option linter.unusedVariables false
set_option maxRecDepth 100000
noncomputable section
namespace Go.Ev.X
open Go Go.Ev
theorem mt23 : mm23.run call1 ⟨flM, rrM⟩ = 0 := by decide +kernel
theorem mt24 : mm24.run call1 ⟨flM, rrM⟩ = 0 := by decide +kernel
theorem mt25 : mm25.run call1 ⟨flM, rrM⟩ = 0 := by decide +kernel
theorem mt26 : mm26.run call1 ⟨flM, rrM⟩ = 0 := by decide +kernel
theorem mt27 : mm27.run call1 ⟨flM, rrM⟩ = 0 := by decide +kernel
theorem mt28 : mm28.run call1 ⟨flM, rrM⟩ = 0 := by decide +kernel
theorem mt29 : mm29.run call1 ⟨flM, rrM⟩ = 0 := by decide +kernel
theorem mt30 : mm30.run call1 ⟨flM, rrM⟩ = 0 := by decide +kernel
theorem mt31 : mm31.run call1 ⟨flM, rrM⟩ = 0 := by decide +kernel
theorem mt32 : mm32.run call1 ⟨flM, rrM⟩ = 0 := by decide +kernel
theorem mt33 : mm33.run call1 ⟨flM, rrM⟩ = 0 := by decide +kernel
theorem mt34 : mm34.run call1 ⟨flM, rrM⟩ = 0 := by decide +kernel
end Go.Ev.X
end
