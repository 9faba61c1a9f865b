/-
  KernelLines: what holds at the loop's head; the truths.
-/
import Derived.Test.YtligpkenodgfoaaGreatDoorLG
import Derived.Test.YtligpkenodgfoaaGreatDoorLW
import Derived.Test.YtligpkenodgfoaaGreatDoorLP
import Derived.Test.YtligpkenodgfoaaGreatDoorE5
set_option linter.unusedSimpArgs false
set_option linter.unusedVariables false
set_option maxRecDepth 100000
noncomputable section
namespace Go.Ev.X
open Go Go.Ev
variable {E : Env}
theorem fB_eq : fB = bF 11 := rfl
def TabS (S : Nat → Row) : Prop := (S 0).b = 0 ∧ ∀ i, i < 32 → (S 0).cs[i]? = some (.int .u8 (([0, 1, 28, 2, 29, 14, 24, 3, 30, 22, 20, 15, 25, 17, 4, 8, 31, 27, 13, 23, 21, 19, 16, 7, 26, 12, 18, 6, 11, 5, 10, 9] : List Int).getD i 0))
def zOf (j : Nat) : Bool := j % 2 == 1
def InvL (m j : Nat) (E : Env) : Prop := j < 32 ∧ TabS E.s ∧ (-9223372036854775808 ≤ E.i 2 ∧ E.i 2 ≤ 9223372036854775807) ∧ E.i 12 = pickI (E.i 2) 5 ∧ 0 ≤ E.i 3 ∧ (m : Int) + E.i 3 = E.i 12 + 1 ∧ (zOf j = false → 0 < E.i 11 ∧ E.i 11 < 268435456)
theorem rows_all : (List.range 32).all (fun j => rowU (stL j).h) = true := by kernel_rfl
theorem rows_j {j : Nat} (hj : j < 32) : rowU (stL j).h = true := List.all_eq_true.1 rows_all j (by simpa using hj)
theorem in_fa {z : Bool} (h : z = false → 0 < E.i 11 ∧ E.i 11 < 268435456) : FaOk E (inF z) := by
  cases z with
  | true => exact FaOk.nil
  | false =>
    obtain ⟨h0, h1⟩ := h rfl
    exact fa_all (bF_ok h0 h1)
theorem go_fa {z b : Bool} (h : z = false → 0 < E.i 11 ∧ E.i 11 < 268435456) (h12 : 0 ≤ E.i 12 ∧ E.i 12 < 5) (hb : decide (E.i 3 < 1 + E.i 12) = b) : FaOk E (goF z b) := by
  have h1 : ∀ c ∈ [fK b], SB.den E c.1 = c.2 := by
    intro c hc
    obtain rfl := List.mem_singleton.1 hc
    refine sb_lt rfl (y := 1 + E.i 12) ?_ hb
    show wrapF .i64 (1 + E.i 12) = _
    rw [wrapF_eq, IntKind.wrap_i64]; omega
  cases z with
  | true => exact fa_all (all_app h1 (by intro c hc; cases hc))
  | false =>
    obtain ⟨h0, h2⟩ := h rfl
    exact fa_all (all_app h1 (bF_ok h0 h2))
theorem lead_go {m j : Nat} (hI : InvL m j E) (h : E.i 3 < 1 + E.i 12) : Leads stL InvL E [(j, sgG)] m := by
  intro _
  obtain ⟨hj, hT, h2, h12, h3, hm, h11⟩ := hI
  obtain ⟨m', rfl⟩ : ∃ m', m = m' + 1 := ⟨m - 1, by omega⟩
  have hp := pickI_lt (c := E.i 2) (n := 5) (by omega)
  have e3 : (anew sgG E).i 3 = E.i 3 + 1 := by
    show wrapF .i64 (E.i 3 + 1) = _
    rw [wrapF_eq, IntKind.wrap_i64]; omega
  have e12 : (anew sgG E).i 12 = E.i 12 := rfl
  have e2 : (anew sgG E).i 2 = E.i 2 := rfl
  have e11 : (anew sgG E).i 11 = E.i 11 := rfl
  exact ⟨j, sgG, m', anew sgG E, by simp, by omega, ⟨hj, hT, by rw [e2]; exact h2, by rw [e2, e12]; exact h12, by omega, by omega, by rw [e11]; exact h11⟩, anew_tr _ _, rowU_ok (rows_j hj)⟩
theorem lead_in {j : Nat} (hj : j < 32) (hT : TabS E.s) (h2 : -9223372036854775808 ≤ E.i 2 ∧ E.i 2 ≤ 9223372036854775807) (h12 : E.i 12 = pickI (E.i 2) 5) (h11 : zOf j = false → 0 < E.i 11 ∧ E.i 11 < 268435456) : Leads stL InvL E [(j, sgA)] 100 := by
  intro _
  have hp := pickI_lt (c := E.i 2) (n := 5) (by omega)
  obtain ⟨m, hm⟩ := Int.eq_ofNat_of_zero_le (by omega : 0 ≤ E.i 12)
  have e3 : (anew sgA E).i 3 = 0 := rfl
  have e12 : (anew sgA E).i 12 = E.i 12 := rfl
  have e2 : (anew sgA E).i 2 = E.i 2 := rfl
  have e11 : (anew sgA E).i 11 = E.i 11 := rfl
  exact ⟨j, sgA, m + 1, anew sgA E, by simp, by omega, ⟨hj, hT, by rw [e2]; exact h2, by rw [e2, e12]; exact h12, by omega, by omega, by rw [e11]; exact h11⟩, anew_tr _ _, rowU_ok (rows_j hj)⟩
theorem l_go : ∀ j, j < 32 → runJ stL xiT ziT (koB rsT) ⟨atL, 5, 20000⟩ j (goF (zOf j) true) [(j, sgG)] = 0 ∧ runJ stL xiT ziT (koB rsT) ⟨atL, 5, 20000⟩ j (goF (zOf j) false) [] = 0 := by
  intro j hj
  match j, hj with
  | 0, _ => exact ⟨l_go0, l_out0⟩
  | 1, _ => exact ⟨l_go1, l_out1⟩
  | 2, _ => exact ⟨l_go2, l_out2⟩
  | 3, _ => exact ⟨l_go3, l_out3⟩
  | 4, _ => exact ⟨l_go4, l_out4⟩
  | 5, _ => exact ⟨l_go5, l_out5⟩
  | 6, _ => exact ⟨l_go6, l_out6⟩
  | 7, _ => exact ⟨l_go7, l_out7⟩
  | 8, _ => exact ⟨l_go8, l_out8⟩
  | 9, _ => exact ⟨l_go9, l_out9⟩
  | 10, _ => exact ⟨l_go10, l_out10⟩
  | 11, _ => exact ⟨l_go11, l_out11⟩
  | 12, _ => exact ⟨l_go12, l_out12⟩
  | 13, _ => exact ⟨l_go13, l_out13⟩
  | 14, _ => exact ⟨l_go14, l_out14⟩
  | 15, _ => exact ⟨l_go15, l_out15⟩
  | 16, _ => exact ⟨l_go16, l_out16⟩
  | 17, _ => exact ⟨l_go17, l_out17⟩
  | 18, _ => exact ⟨l_go18, l_out18⟩
  | 19, _ => exact ⟨l_go19, l_out19⟩
  | 20, _ => exact ⟨l_go20, l_out20⟩
  | 21, _ => exact ⟨l_go21, l_out21⟩
  | 22, _ => exact ⟨l_go22, l_out22⟩
  | 23, _ => exact ⟨l_go23, l_out23⟩
  | 24, _ => exact ⟨l_go24, l_out24⟩
  | 25, _ => exact ⟨l_go25, l_out25⟩
  | 26, _ => exact ⟨l_go26, l_out26⟩
  | 27, _ => exact ⟨l_go27, l_out27⟩
  | 28, _ => exact ⟨l_go28, l_out28⟩
  | 29, _ => exact ⟨l_go29, l_out29⟩
  | 30, _ => exact ⟨l_go30, l_out30⟩
  | 31, _ => exact ⟨l_go31, l_out31⟩
  | n + 32, h => exact absurd h (by omega)
end Go.Ev.X
end
