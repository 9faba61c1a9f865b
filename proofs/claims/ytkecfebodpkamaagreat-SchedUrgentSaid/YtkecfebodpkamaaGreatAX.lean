/-
  The chapter's example, wherever it is called.
-/
import Derived.Test.YtkecfebodpkamaaGreatAT
set_option linter.unusedSimpArgs false
set_option linter.unusedVariables false
set_option maxRecDepth 100000
noncomputable section
namespace Go.Ev.X
open Go Go.Ev
variable {E : Env} {P : Program}
def aHook : List V → H → Fa → K → Nat := fun l h fa k => lCase (k (.b true) h fa) (fun _ _ => 1) l
theorem aHook_ok (h1 : CxOk E P (tyOf P) cx1) (h2 : CallOk E P call1) : CallOk E P (fun G l h fa k => bc (Nat.beq G 8) (aHook l h fa k) 1) := lone_ok (callS_run h1 0 (aIn0_ok h2)) FaOk.nil trivial a_run0
def callA : CallT := fun F l h fa k => bc (Nat.beq F 8) (aHook l h fa k) (call1 F l h fa k)
theorem callA_ok (h1 : CxOk E P (tyOf P) cx1) (h2 : CallOk E P call1) : CallOk E P callA := by
  intro F l h fa k hk hfa
  have hk : bc (Nat.beq F 8) (aHook l h fa k) (call1 F l h fa k) = 0 := hk
  cases e : Nat.beq F 8 with
  | true => exact aHook_ok h1 h2 F l h fa k (by show bc (Nat.beq F 8) _ 1 = 0; rw [e] at hk ⊢; exact hk) hfa
  | false => rw [e] at hk; exact h2 F l h fa k hk hfa
end Go.Ev.X
end
