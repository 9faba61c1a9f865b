/-
  The calls below a law: the example, the memory at the beginning as a row.
-/
import Derived.Test.YtkecfebodpkamaaGreatMU
import Derived.Test.YtkecfebodpkamaaGreatAX
set_option linter.unusedSimpArgs false
set_option linter.unusedVariables false
set_option maxRecDepth 100000
noncomputable section
namespace Go.Ev.X
open Go Go.Ev Go.Proofs
variable {E : Env}
def callAx (inner : CallT) : CallT := fun F l h fa k => bc (Nat.beq F 8) (aHook l h fa k) (inner F l h fa k)
theorem callAx_ok {inner : CallT} (h : CallOk E PP inner) : CallOk E PP (callAx inner) := by
  intro F l h0 fa k hk hfa
  have hk : bc (Nat.beq F 8) (aHook l h0 fa k) (inner F l h0 fa k) = 0 := hk
  cases e : Nat.beq F 8 with
  | true => exact aHook_ok (cx1_ok (lenAll E)) (call1_ok (lenAll E)) F l h0 fa k (by show bc (Nat.beq F 8) _ 1 = 0; rw [e] at hk ⊢; exact hk) hfa
  | false => rw [e] at hk; exact h F l h0 fa k hk hfa
def oArr : O := .arr 37 8192 13 (.i .u64 0) abt0
def inU (c : CallT) : CallT := asRow 9 q1376 oArr (.oa 37 0 8192 13 .nil) (memoS ab (callAx c))
theorem inU_ok {c : CallT} (hq : WordsIs (E.s 0).cs 8192 f0) (hc : CallOk E PP c) : CallOk E PP (inU c) :=
  asRow_ok (msS_ok rfl abt FaOk.nil (call1_ok (lenAll E)) (callAx_ok hc)) rfl (fun ρ L hp h => arr_row abt_u hq ρ L hp h) (oaNil_bd _ _ _ _)
def fU : List (SB × Bool) := [((.cmp .lss (.v 0) (.lit 0)), false), ((.cmp .leq (.v 1) (.v 0)), false), ((.cmp .gtr (.v 1) (.lit 255)), false)]
end Go.Ev.X
end
