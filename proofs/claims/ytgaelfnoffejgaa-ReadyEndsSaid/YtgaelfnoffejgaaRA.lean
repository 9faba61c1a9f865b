/-
 The chapter's example, wherever it is called.
-/
import Derived.Test.YtgaelfnoffejgaaMM
import Derived.Test.YtgaelfnoffejgaaE4
set_option linter.unusedSimpArgs false
set_option linter.unusedVariables false
set_option maxRecDepth 100000
noncomputable section
namespace Go.Ev.X
open Go Go.Ev Go.Proofs
variable {E : Env}
theorem a_run0 : callS cx1 0 call1 8 [] ⟨.h, .h, .e⟩ ⟨[], []⟩ endB = 0 := by decide +kernel
def aHook : List V → H → Fa → K → Nat := fun l h fa k => lCase (k (.b true) h fa) (fun _ _ => 1) l
theorem aHook_ok : CallOk E PP (fun G l h fa k => bc (Nat.beq G 8) (aHook l h fa k) 1) := lone_ok (callS_run (cx1_ok (lenAll E)) 0 (call1_ok (lenAll E))) FaOk.nil trivial a_run0
def callAx (inner : CallT) : CallT := fun F l h fa k => bc (Nat.beq F 8) (aHook l h fa k) (inner F l h fa k)
theorem callAx_ok {inner : CallT} (h : CallOk E PP inner) : CallOk E PP (callAx inner) := by
 intro F l h0 fa k hk hfa
 have hk : bc (Nat.beq F 8) (aHook l h0 fa k) (inner F l h0 fa k) = 0 := hk
 cases e : Nat.beq F 8 with
 | true => exact aHook_ok F l h0 fa k (by show bc (Nat.beq F 8) _ 1 = 0; rw [e] at hk ⊢; exact hk) hfa
 | false => rw [e] at hk; exact h F l h0 fa k hk hfa
end Go.Ev.X
end
