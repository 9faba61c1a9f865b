/-
  IpcInfo: in each case the truths of it.
-/
import Derived.Test.YtapeacnagpphjaaGreatXJ
set_option linter.unusedSimpArgs false
set_option linter.unusedVariables false
set_option maxRecDepth 100000
noncomputable section
namespace Go.Ev.X
open Go Go.Ev
variable {E : Env}
theorem faOk_of {l : List (SB × Bool)} (h : BdI E) (hl : ∀ c b, (c, b) ∈ l → c.den E = b) : FaOk E ⟨l, rrI⟩ := by
  refine ⟨hl, fun i a b hm => ?_⟩
  simp only [rrI, List.mem_cons, List.not_mem_nil, or_false, Prod.mk.injEq] at hm
  rcases hm with ⟨rfl, rfl, rfl⟩ | ⟨rfl, rfl, rfl⟩ | ⟨rfl, rfl, rfl⟩ | ⟨rfl, rfl, rfl⟩
  · exact h.b0
  · exact h.b1
  · exact h.b2
  · exact h.b3
theorem h0 (h : BdI E) (hL : E.i 0 < 0) (hC : E.i 1 < 0) (hN : E.i 2 < 0) (hQ : E.i 3 / 16 % 16 ≤ 1) (hR : E.i 3 % 16 ≤ 4) : FaOk E ⟨fa0, rrI⟩ := by
  refine faOk_of h fun c b hm => ?_
  simp only [fa0, List.mem_cons, List.not_mem_nil, or_false, Prod.mk.injEq] at hm
  rcases hm with ⟨rfl, rfl⟩ | ⟨rfl, rfl⟩ | ⟨rfl, rfl⟩ | ⟨rfl, rfl⟩ | ⟨rfl, rfl⟩ | ⟨rfl, rfl⟩ | ⟨rfl, rfl⟩ | ⟨rfl, rfl⟩ | ⟨rfl, rfl⟩ | ⟨rfl, rfl⟩ | ⟨rfl, rfl⟩ | ⟨rfl, rfl⟩
  · rw [d0 h]; have := h.b3; exact decide_eq_false (by omega)
  · rw [d1 h]; have := h.b3; exact decide_eq_true (by omega)
  · rw [d2 h]; have := h.b3; exact decide_eq_true (by omega)
  · rw [d3 h]; have := h.b3; exact decide_eq_false (by omega)
  · rw [d4 h]; have := h.b3; exact decide_eq_false (by omega)
  · rw [d5 h]; have := h.b3; exact decide_eq_false (by omega)
  · rw [d6 h]; have := h.b3; exact decide_eq_false (by omega)
  · rw [d7 h]; have := h.b0; have := h.b1; have := h.b2; unfold valA; simp only [SE.den, arAdd, arMul, arRem, IntKind.wrap_u64, IntKind.wrap_i64, clI, ]; exact decide_eq_false (by simp only [Decidable.not_not]; (repeat' split) <;> omega)
  · rw [d8 h]; have := h.b3; exact decide_eq_false (by omega)
  · rw [d9 h]; have := h.b3; exact decide_eq_false (by simp only [clI]; (repeat' split) <;> omega)
  · rw [d10 h]; have := h.b3; exact decide_eq_false (by simp only [clI]; (repeat' split) <;> omega)
  · rw [d11 h]; have := h.b3; exact decide_eq_false (by omega)
theorem h1 (h : BdI E) (hL : E.i 0 < 0) (hC : E.i 1 < 0) (hN : E.i 2 < 0) (hQ : E.i 3 / 16 % 16 ≤ 1) (hR : 4 < E.i 3 % 16) : FaOk E ⟨fa1, rrI⟩ := by
  refine faOk_of h fun c b hm => ?_
  simp only [fa1, List.mem_cons, List.not_mem_nil, or_false, Prod.mk.injEq] at hm
  rcases hm with ⟨rfl, rfl⟩ | ⟨rfl, rfl⟩ | ⟨rfl, rfl⟩ | ⟨rfl, rfl⟩ | ⟨rfl, rfl⟩ | ⟨rfl, rfl⟩ | ⟨rfl, rfl⟩ | ⟨rfl, rfl⟩ | ⟨rfl, rfl⟩ | ⟨rfl, rfl⟩ | ⟨rfl, rfl⟩ | ⟨rfl, rfl⟩
  · rw [d0 h]; have := h.b3; exact decide_eq_false (by omega)
  · rw [d1 h]; have := h.b3; exact decide_eq_true (by omega)
  · rw [d2 h]; have := h.b3; exact decide_eq_true (by omega)
  · rw [d3 h]; have := h.b3; exact decide_eq_false (by omega)
  · rw [d4 h]; have := h.b3; exact decide_eq_false (by omega)
  · rw [d5 h]; have := h.b3; exact decide_eq_false (by omega)
  · rw [d6 h]; have := h.b3; exact decide_eq_true (by omega)
  · rw [d7 h]; have := h.b0; have := h.b1; have := h.b2; unfold valA; simp only [SE.den, arAdd, arMul, arRem, IntKind.wrap_u64, IntKind.wrap_i64, clI, ]; exact decide_eq_false (by simp only [Decidable.not_not]; (repeat' split) <;> omega)
  · rw [d8 h]; have := h.b3; exact decide_eq_false (by omega)
  · rw [d9 h]; have := h.b3; exact decide_eq_false (by simp only [clI]; (repeat' split) <;> omega)
  · rw [d12 h]; have := h.b3; exact decide_eq_false (by simp only [clI]; (repeat' split) <;> omega)
  · rw [d11 h]; have := h.b3; exact decide_eq_false (by omega)
theorem h2 (h : BdI E) (hL : E.i 0 < 0) (hC : E.i 1 < 0) (hN : E.i 2 < 0) (hQ : 1 < E.i 3 / 16 % 16) (hR : E.i 3 % 16 ≤ 4) : FaOk E ⟨fa2, rrI⟩ := by
  refine faOk_of h fun c b hm => ?_
  simp only [fa2, List.mem_cons, List.not_mem_nil, or_false, Prod.mk.injEq] at hm
  rcases hm with ⟨rfl, rfl⟩ | ⟨rfl, rfl⟩ | ⟨rfl, rfl⟩ | ⟨rfl, rfl⟩ | ⟨rfl, rfl⟩ | ⟨rfl, rfl⟩ | ⟨rfl, rfl⟩ | ⟨rfl, rfl⟩ | ⟨rfl, rfl⟩ | ⟨rfl, rfl⟩ | ⟨rfl, rfl⟩ | ⟨rfl, rfl⟩
  · rw [d0 h]; have := h.b3; exact decide_eq_false (by omega)
  · rw [d1 h]; have := h.b3; exact decide_eq_true (by omega)
  · rw [d2 h]; have := h.b3; exact decide_eq_true (by omega)
  · rw [d3 h]; have := h.b3; exact decide_eq_false (by omega)
  · rw [d4 h]; have := h.b3; exact decide_eq_true (by omega)
  · rw [d5 h]; have := h.b3; exact decide_eq_false (by omega)
  · rw [d6 h]; have := h.b3; exact decide_eq_false (by omega)
  · rw [d7 h]; have := h.b0; have := h.b1; have := h.b2; unfold valA; simp only [SE.den, arAdd, arMul, arRem, IntKind.wrap_u64, IntKind.wrap_i64, clI, ]; exact decide_eq_false (by simp only [Decidable.not_not]; (repeat' split) <;> omega)
  · rw [d8 h]; have := h.b3; exact decide_eq_false (by omega)
  · rw [d13 h]; have := h.b3; exact decide_eq_false (by simp only [clI]; (repeat' split) <;> omega)
  · rw [d10 h]; have := h.b3; exact decide_eq_false (by simp only [clI]; (repeat' split) <;> omega)
  · rw [d11 h]; have := h.b3; exact decide_eq_false (by omega)
theorem h3 (h : BdI E) (hL : E.i 0 < 0) (hC : E.i 1 < 0) (hN : E.i 2 < 0) (hQ : 1 < E.i 3 / 16 % 16) (hR : 4 < E.i 3 % 16) : FaOk E ⟨fa3, rrI⟩ := by
  refine faOk_of h fun c b hm => ?_
  simp only [fa3, List.mem_cons, List.not_mem_nil, or_false, Prod.mk.injEq] at hm
  rcases hm with ⟨rfl, rfl⟩ | ⟨rfl, rfl⟩ | ⟨rfl, rfl⟩ | ⟨rfl, rfl⟩ | ⟨rfl, rfl⟩ | ⟨rfl, rfl⟩ | ⟨rfl, rfl⟩ | ⟨rfl, rfl⟩ | ⟨rfl, rfl⟩ | ⟨rfl, rfl⟩ | ⟨rfl, rfl⟩ | ⟨rfl, rfl⟩
  · rw [d0 h]; have := h.b3; exact decide_eq_false (by omega)
  · rw [d1 h]; have := h.b3; exact decide_eq_true (by omega)
  · rw [d2 h]; have := h.b3; exact decide_eq_true (by omega)
  · rw [d3 h]; have := h.b3; exact decide_eq_false (by omega)
  · rw [d4 h]; have := h.b3; exact decide_eq_true (by omega)
  · rw [d5 h]; have := h.b3; exact decide_eq_false (by omega)
  · rw [d6 h]; have := h.b3; exact decide_eq_true (by omega)
  · rw [d7 h]; have := h.b0; have := h.b1; have := h.b2; unfold valA; simp only [SE.den, arAdd, arMul, arRem, IntKind.wrap_u64, IntKind.wrap_i64, clI, ]; exact decide_eq_false (by simp only [Decidable.not_not]; (repeat' split) <;> omega)
  · rw [d8 h]; have := h.b3; exact decide_eq_false (by omega)
  · rw [d13 h]; have := h.b3; exact decide_eq_false (by simp only [clI]; (repeat' split) <;> omega)
  · rw [d12 h]; have := h.b3; exact decide_eq_false (by simp only [clI]; (repeat' split) <;> omega)
  · rw [d11 h]; have := h.b3; exact decide_eq_false (by omega)
theorem h4 (h : BdI E) (hL : E.i 0 < 0) (hC : E.i 1 < 0) (hN : 0 ≤ E.i 2 ∧ E.i 2 ≤ 4) (hQ : E.i 3 / 16 % 16 ≤ 1) (hR : E.i 3 % 16 ≤ 4) : FaOk E ⟨fa4, rrI⟩ := by
  refine faOk_of h fun c b hm => ?_
  simp only [fa4, List.mem_cons, List.not_mem_nil, or_false, Prod.mk.injEq] at hm
  rcases hm with ⟨rfl, rfl⟩ | ⟨rfl, rfl⟩ | ⟨rfl, rfl⟩ | ⟨rfl, rfl⟩ | ⟨rfl, rfl⟩ | ⟨rfl, rfl⟩ | ⟨rfl, rfl⟩ | ⟨rfl, rfl⟩ | ⟨rfl, rfl⟩ | ⟨rfl, rfl⟩ | ⟨rfl, rfl⟩ | ⟨rfl, rfl⟩ | ⟨rfl, rfl⟩
  · rw [d0 h]; have := h.b3; exact decide_eq_false (by omega)
  · rw [d1 h]; have := h.b3; exact decide_eq_true (by omega)
  · rw [d2 h]; have := h.b3; exact decide_eq_false (by omega)
  · rw [d14 h]; have := h.b3; exact decide_eq_false (by omega)
  · rw [d3 h]; have := h.b3; exact decide_eq_false (by omega)
  · rw [d4 h]; have := h.b3; exact decide_eq_false (by omega)
  · rw [d5 h]; have := h.b3; exact decide_eq_false (by omega)
  · rw [d6 h]; have := h.b3; exact decide_eq_false (by omega)
  · rw [d15 h]; have := h.b0; have := h.b1; have := h.b2; unfold valA; simp only [SE.den, arAdd, arMul, arRem, IntKind.wrap_u64, IntKind.wrap_i64, clI, ]; exact decide_eq_false (by simp only [Decidable.not_not]; (repeat' split) <;> omega)
  · rw [d8 h]; have := h.b3; exact decide_eq_false (by omega)
  · rw [d9 h]; have := h.b3; exact decide_eq_false (by simp only [clI]; (repeat' split) <;> omega)
  · rw [d10 h]; have := h.b3; exact decide_eq_false (by simp only [clI]; (repeat' split) <;> omega)
  · rw [d11 h]; have := h.b3; exact decide_eq_false (by omega)
theorem h5 (h : BdI E) (hL : E.i 0 < 0) (hC : E.i 1 < 0) (hN : 0 ≤ E.i 2 ∧ E.i 2 ≤ 4) (hQ : E.i 3 / 16 % 16 ≤ 1) (hR : 4 < E.i 3 % 16) : FaOk E ⟨fa5, rrI⟩ := by
  refine faOk_of h fun c b hm => ?_
  simp only [fa5, List.mem_cons, List.not_mem_nil, or_false, Prod.mk.injEq] at hm
  rcases hm with ⟨rfl, rfl⟩ | ⟨rfl, rfl⟩ | ⟨rfl, rfl⟩ | ⟨rfl, rfl⟩ | ⟨rfl, rfl⟩ | ⟨rfl, rfl⟩ | ⟨rfl, rfl⟩ | ⟨rfl, rfl⟩ | ⟨rfl, rfl⟩ | ⟨rfl, rfl⟩ | ⟨rfl, rfl⟩ | ⟨rfl, rfl⟩ | ⟨rfl, rfl⟩
  · rw [d0 h]; have := h.b3; exact decide_eq_false (by omega)
  · rw [d1 h]; have := h.b3; exact decide_eq_true (by omega)
  · rw [d2 h]; have := h.b3; exact decide_eq_false (by omega)
  · rw [d14 h]; have := h.b3; exact decide_eq_false (by omega)
  · rw [d3 h]; have := h.b3; exact decide_eq_false (by omega)
  · rw [d4 h]; have := h.b3; exact decide_eq_false (by omega)
  · rw [d5 h]; have := h.b3; exact decide_eq_false (by omega)
  · rw [d6 h]; have := h.b3; exact decide_eq_true (by omega)
  · rw [d15 h]; have := h.b0; have := h.b1; have := h.b2; unfold valA; simp only [SE.den, arAdd, arMul, arRem, IntKind.wrap_u64, IntKind.wrap_i64, clI, ]; exact decide_eq_false (by simp only [Decidable.not_not]; (repeat' split) <;> omega)
  · rw [d8 h]; have := h.b3; exact decide_eq_false (by omega)
  · rw [d9 h]; have := h.b3; exact decide_eq_false (by simp only [clI]; (repeat' split) <;> omega)
  · rw [d12 h]; have := h.b3; exact decide_eq_false (by simp only [clI]; (repeat' split) <;> omega)
  · rw [d11 h]; have := h.b3; exact decide_eq_false (by omega)
theorem h6 (h : BdI E) (hL : E.i 0 < 0) (hC : E.i 1 < 0) (hN : 0 ≤ E.i 2 ∧ E.i 2 ≤ 4) (hQ : 1 < E.i 3 / 16 % 16) (hR : E.i 3 % 16 ≤ 4) : FaOk E ⟨fa6, rrI⟩ := by
  refine faOk_of h fun c b hm => ?_
  simp only [fa6, List.mem_cons, List.not_mem_nil, or_false, Prod.mk.injEq] at hm
  rcases hm with ⟨rfl, rfl⟩ | ⟨rfl, rfl⟩ | ⟨rfl, rfl⟩ | ⟨rfl, rfl⟩ | ⟨rfl, rfl⟩ | ⟨rfl, rfl⟩ | ⟨rfl, rfl⟩ | ⟨rfl, rfl⟩ | ⟨rfl, rfl⟩ | ⟨rfl, rfl⟩ | ⟨rfl, rfl⟩ | ⟨rfl, rfl⟩ | ⟨rfl, rfl⟩
  · rw [d0 h]; have := h.b3; exact decide_eq_false (by omega)
  · rw [d1 h]; have := h.b3; exact decide_eq_true (by omega)
  · rw [d2 h]; have := h.b3; exact decide_eq_false (by omega)
  · rw [d14 h]; have := h.b3; exact decide_eq_false (by omega)
  · rw [d3 h]; have := h.b3; exact decide_eq_false (by omega)
  · rw [d4 h]; have := h.b3; exact decide_eq_true (by omega)
  · rw [d5 h]; have := h.b3; exact decide_eq_false (by omega)
  · rw [d6 h]; have := h.b3; exact decide_eq_false (by omega)
  · rw [d15 h]; have := h.b0; have := h.b1; have := h.b2; unfold valA; simp only [SE.den, arAdd, arMul, arRem, IntKind.wrap_u64, IntKind.wrap_i64, clI, ]; exact decide_eq_false (by simp only [Decidable.not_not]; (repeat' split) <;> omega)
  · rw [d8 h]; have := h.b3; exact decide_eq_false (by omega)
  · rw [d13 h]; have := h.b3; exact decide_eq_false (by simp only [clI]; (repeat' split) <;> omega)
  · rw [d10 h]; have := h.b3; exact decide_eq_false (by simp only [clI]; (repeat' split) <;> omega)
  · rw [d11 h]; have := h.b3; exact decide_eq_false (by omega)
theorem h7 (h : BdI E) (hL : E.i 0 < 0) (hC : E.i 1 < 0) (hN : 0 ≤ E.i 2 ∧ E.i 2 ≤ 4) (hQ : 1 < E.i 3 / 16 % 16) (hR : 4 < E.i 3 % 16) : FaOk E ⟨fa7, rrI⟩ := by
  refine faOk_of h fun c b hm => ?_
  simp only [fa7, List.mem_cons, List.not_mem_nil, or_false, Prod.mk.injEq] at hm
  rcases hm with ⟨rfl, rfl⟩ | ⟨rfl, rfl⟩ | ⟨rfl, rfl⟩ | ⟨rfl, rfl⟩ | ⟨rfl, rfl⟩ | ⟨rfl, rfl⟩ | ⟨rfl, rfl⟩ | ⟨rfl, rfl⟩ | ⟨rfl, rfl⟩ | ⟨rfl, rfl⟩ | ⟨rfl, rfl⟩ | ⟨rfl, rfl⟩ | ⟨rfl, rfl⟩
  · rw [d0 h]; have := h.b3; exact decide_eq_false (by omega)
  · rw [d1 h]; have := h.b3; exact decide_eq_true (by omega)
  · rw [d2 h]; have := h.b3; exact decide_eq_false (by omega)
  · rw [d14 h]; have := h.b3; exact decide_eq_false (by omega)
  · rw [d3 h]; have := h.b3; exact decide_eq_false (by omega)
  · rw [d4 h]; have := h.b3; exact decide_eq_true (by omega)
  · rw [d5 h]; have := h.b3; exact decide_eq_false (by omega)
  · rw [d6 h]; have := h.b3; exact decide_eq_true (by omega)
  · rw [d15 h]; have := h.b0; have := h.b1; have := h.b2; unfold valA; simp only [SE.den, arAdd, arMul, arRem, IntKind.wrap_u64, IntKind.wrap_i64, clI, ]; exact decide_eq_false (by simp only [Decidable.not_not]; (repeat' split) <;> omega)
  · rw [d8 h]; have := h.b3; exact decide_eq_false (by omega)
  · rw [d13 h]; have := h.b3; exact decide_eq_false (by simp only [clI]; (repeat' split) <;> omega)
  · rw [d12 h]; have := h.b3; exact decide_eq_false (by simp only [clI]; (repeat' split) <;> omega)
  · rw [d11 h]; have := h.b3; exact decide_eq_false (by omega)
theorem h8 (h : BdI E) (hL : E.i 0 < 0) (hC : E.i 1 < 0) (hN : 4 < E.i 2) (hQ : E.i 3 / 16 % 16 ≤ 1) (hR : E.i 3 % 16 ≤ 4) : FaOk E ⟨fa8, rrI⟩ := by
  refine faOk_of h fun c b hm => ?_
  simp only [fa8, List.mem_cons, List.not_mem_nil, or_false, Prod.mk.injEq] at hm
  rcases hm with ⟨rfl, rfl⟩ | ⟨rfl, rfl⟩ | ⟨rfl, rfl⟩ | ⟨rfl, rfl⟩ | ⟨rfl, rfl⟩ | ⟨rfl, rfl⟩ | ⟨rfl, rfl⟩ | ⟨rfl, rfl⟩ | ⟨rfl, rfl⟩ | ⟨rfl, rfl⟩ | ⟨rfl, rfl⟩ | ⟨rfl, rfl⟩ | ⟨rfl, rfl⟩
  · rw [d0 h]; have := h.b3; exact decide_eq_false (by omega)
  · rw [d1 h]; have := h.b3; exact decide_eq_true (by omega)
  · rw [d2 h]; have := h.b3; exact decide_eq_false (by omega)
  · rw [d14 h]; have := h.b3; exact decide_eq_true (by omega)
  · rw [d3 h]; have := h.b3; exact decide_eq_false (by omega)
  · rw [d4 h]; have := h.b3; exact decide_eq_false (by omega)
  · rw [d5 h]; have := h.b3; exact decide_eq_false (by omega)
  · rw [d6 h]; have := h.b3; exact decide_eq_false (by omega)
  · rw [d16 h]; have := h.b0; have := h.b1; have := h.b2; unfold valA; simp only [SE.den, arAdd, arMul, arRem, IntKind.wrap_u64, IntKind.wrap_i64, clI, ]; exact decide_eq_false (by simp only [Decidable.not_not]; (repeat' split) <;> omega)
  · rw [d8 h]; have := h.b3; exact decide_eq_false (by omega)
  · rw [d9 h]; have := h.b3; exact decide_eq_false (by simp only [clI]; (repeat' split) <;> omega)
  · rw [d10 h]; have := h.b3; exact decide_eq_false (by simp only [clI]; (repeat' split) <;> omega)
  · rw [d11 h]; have := h.b3; exact decide_eq_false (by omega)
theorem h9 (h : BdI E) (hL : E.i 0 < 0) (hC : E.i 1 < 0) (hN : 4 < E.i 2) (hQ : E.i 3 / 16 % 16 ≤ 1) (hR : 4 < E.i 3 % 16) : FaOk E ⟨fa9, rrI⟩ := by
  refine faOk_of h fun c b hm => ?_
  simp only [fa9, List.mem_cons, List.not_mem_nil, or_false, Prod.mk.injEq] at hm
  rcases hm with ⟨rfl, rfl⟩ | ⟨rfl, rfl⟩ | ⟨rfl, rfl⟩ | ⟨rfl, rfl⟩ | ⟨rfl, rfl⟩ | ⟨rfl, rfl⟩ | ⟨rfl, rfl⟩ | ⟨rfl, rfl⟩ | ⟨rfl, rfl⟩ | ⟨rfl, rfl⟩ | ⟨rfl, rfl⟩ | ⟨rfl, rfl⟩ | ⟨rfl, rfl⟩
  · rw [d0 h]; have := h.b3; exact decide_eq_false (by omega)
  · rw [d1 h]; have := h.b3; exact decide_eq_true (by omega)
  · rw [d2 h]; have := h.b3; exact decide_eq_false (by omega)
  · rw [d14 h]; have := h.b3; exact decide_eq_true (by omega)
  · rw [d3 h]; have := h.b3; exact decide_eq_false (by omega)
  · rw [d4 h]; have := h.b3; exact decide_eq_false (by omega)
  · rw [d5 h]; have := h.b3; exact decide_eq_false (by omega)
  · rw [d6 h]; have := h.b3; exact decide_eq_true (by omega)
  · rw [d16 h]; have := h.b0; have := h.b1; have := h.b2; unfold valA; simp only [SE.den, arAdd, arMul, arRem, IntKind.wrap_u64, IntKind.wrap_i64, clI, ]; exact decide_eq_false (by simp only [Decidable.not_not]; (repeat' split) <;> omega)
  · rw [d8 h]; have := h.b3; exact decide_eq_false (by omega)
  · rw [d9 h]; have := h.b3; exact decide_eq_false (by simp only [clI]; (repeat' split) <;> omega)
  · rw [d12 h]; have := h.b3; exact decide_eq_false (by simp only [clI]; (repeat' split) <;> omega)
  · rw [d11 h]; have := h.b3; exact decide_eq_false (by omega)
theorem h10 (h : BdI E) (hL : E.i 0 < 0) (hC : E.i 1 < 0) (hN : 4 < E.i 2) (hQ : 1 < E.i 3 / 16 % 16) (hR : E.i 3 % 16 ≤ 4) : FaOk E ⟨fa10, rrI⟩ := by
  refine faOk_of h fun c b hm => ?_
  simp only [fa10, List.mem_cons, List.not_mem_nil, or_false, Prod.mk.injEq] at hm
  rcases hm with ⟨rfl, rfl⟩ | ⟨rfl, rfl⟩ | ⟨rfl, rfl⟩ | ⟨rfl, rfl⟩ | ⟨rfl, rfl⟩ | ⟨rfl, rfl⟩ | ⟨rfl, rfl⟩ | ⟨rfl, rfl⟩ | ⟨rfl, rfl⟩ | ⟨rfl, rfl⟩ | ⟨rfl, rfl⟩ | ⟨rfl, rfl⟩ | ⟨rfl, rfl⟩
  · rw [d0 h]; have := h.b3; exact decide_eq_false (by omega)
  · rw [d1 h]; have := h.b3; exact decide_eq_true (by omega)
  · rw [d2 h]; have := h.b3; exact decide_eq_false (by omega)
  · rw [d14 h]; have := h.b3; exact decide_eq_true (by omega)
  · rw [d3 h]; have := h.b3; exact decide_eq_false (by omega)
  · rw [d4 h]; have := h.b3; exact decide_eq_true (by omega)
  · rw [d5 h]; have := h.b3; exact decide_eq_false (by omega)
  · rw [d6 h]; have := h.b3; exact decide_eq_false (by omega)
  · rw [d16 h]; have := h.b0; have := h.b1; have := h.b2; unfold valA; simp only [SE.den, arAdd, arMul, arRem, IntKind.wrap_u64, IntKind.wrap_i64, clI, ]; exact decide_eq_false (by simp only [Decidable.not_not]; (repeat' split) <;> omega)
  · rw [d8 h]; have := h.b3; exact decide_eq_false (by omega)
  · rw [d13 h]; have := h.b3; exact decide_eq_false (by simp only [clI]; (repeat' split) <;> omega)
  · rw [d10 h]; have := h.b3; exact decide_eq_false (by simp only [clI]; (repeat' split) <;> omega)
  · rw [d11 h]; have := h.b3; exact decide_eq_false (by omega)
theorem h11 (h : BdI E) (hL : E.i 0 < 0) (hC : E.i 1 < 0) (hN : 4 < E.i 2) (hQ : 1 < E.i 3 / 16 % 16) (hR : 4 < E.i 3 % 16) : FaOk E ⟨fa11, rrI⟩ := by
  refine faOk_of h fun c b hm => ?_
  simp only [fa11, List.mem_cons, List.not_mem_nil, or_false, Prod.mk.injEq] at hm
  rcases hm with ⟨rfl, rfl⟩ | ⟨rfl, rfl⟩ | ⟨rfl, rfl⟩ | ⟨rfl, rfl⟩ | ⟨rfl, rfl⟩ | ⟨rfl, rfl⟩ | ⟨rfl, rfl⟩ | ⟨rfl, rfl⟩ | ⟨rfl, rfl⟩ | ⟨rfl, rfl⟩ | ⟨rfl, rfl⟩ | ⟨rfl, rfl⟩ | ⟨rfl, rfl⟩
  · rw [d0 h]; have := h.b3; exact decide_eq_false (by omega)
  · rw [d1 h]; have := h.b3; exact decide_eq_true (by omega)
  · rw [d2 h]; have := h.b3; exact decide_eq_false (by omega)
  · rw [d14 h]; have := h.b3; exact decide_eq_true (by omega)
  · rw [d3 h]; have := h.b3; exact decide_eq_false (by omega)
  · rw [d4 h]; have := h.b3; exact decide_eq_true (by omega)
  · rw [d5 h]; have := h.b3; exact decide_eq_false (by omega)
  · rw [d6 h]; have := h.b3; exact decide_eq_true (by omega)
  · rw [d16 h]; have := h.b0; have := h.b1; have := h.b2; unfold valA; simp only [SE.den, arAdd, arMul, arRem, IntKind.wrap_u64, IntKind.wrap_i64, clI, ]; exact decide_eq_false (by simp only [Decidable.not_not]; (repeat' split) <;> omega)
  · rw [d8 h]; have := h.b3; exact decide_eq_false (by omega)
  · rw [d13 h]; have := h.b3; exact decide_eq_false (by simp only [clI]; (repeat' split) <;> omega)
  · rw [d12 h]; have := h.b3; exact decide_eq_false (by simp only [clI]; (repeat' split) <;> omega)
  · rw [d11 h]; have := h.b3; exact decide_eq_false (by omega)
theorem h12 (h : BdI E) (hL : E.i 0 < 0) (hC : 0 ≤ E.i 1 ∧ E.i 1 ≤ 1) (hN : E.i 2 < 0) (hQ : E.i 3 / 16 % 16 ≤ 1) (hR : E.i 3 % 16 ≤ 4) : FaOk E ⟨fa12, rrI⟩ := by
  refine faOk_of h fun c b hm => ?_
  simp only [fa12, List.mem_cons, List.not_mem_nil, or_false, Prod.mk.injEq] at hm
  rcases hm with ⟨rfl, rfl⟩ | ⟨rfl, rfl⟩ | ⟨rfl, rfl⟩ | ⟨rfl, rfl⟩ | ⟨rfl, rfl⟩ | ⟨rfl, rfl⟩ | ⟨rfl, rfl⟩ | ⟨rfl, rfl⟩ | ⟨rfl, rfl⟩ | ⟨rfl, rfl⟩ | ⟨rfl, rfl⟩ | ⟨rfl, rfl⟩ | ⟨rfl, rfl⟩
  · rw [d0 h]; have := h.b3; exact decide_eq_false (by omega)
  · rw [d1 h]; have := h.b3; exact decide_eq_false (by omega)
  · rw [d17 h]; have := h.b3; exact decide_eq_false (by omega)
  · rw [d2 h]; have := h.b3; exact decide_eq_true (by omega)
  · rw [d3 h]; have := h.b3; exact decide_eq_false (by omega)
  · rw [d4 h]; have := h.b3; exact decide_eq_false (by omega)
  · rw [d5 h]; have := h.b3; exact decide_eq_false (by omega)
  · rw [d6 h]; have := h.b3; exact decide_eq_false (by omega)
  · rw [d18 h]; have := h.b0; have := h.b1; have := h.b2; unfold valA; simp only [SE.den, arAdd, arMul, arRem, IntKind.wrap_u64, IntKind.wrap_i64, clI, ]; exact decide_eq_false (by simp only [Decidable.not_not]; (repeat' split) <;> omega)
  · rw [d8 h]; have := h.b3; exact decide_eq_false (by omega)
  · rw [d9 h]; have := h.b3; exact decide_eq_false (by simp only [clI]; (repeat' split) <;> omega)
  · rw [d10 h]; have := h.b3; exact decide_eq_false (by simp only [clI]; (repeat' split) <;> omega)
  · rw [d11 h]; have := h.b3; exact decide_eq_false (by omega)
theorem h13 (h : BdI E) (hL : E.i 0 < 0) (hC : 0 ≤ E.i 1 ∧ E.i 1 ≤ 1) (hN : E.i 2 < 0) (hQ : E.i 3 / 16 % 16 ≤ 1) (hR : 4 < E.i 3 % 16) : FaOk E ⟨fa13, rrI⟩ := by
  refine faOk_of h fun c b hm => ?_
  simp only [fa13, List.mem_cons, List.not_mem_nil, or_false, Prod.mk.injEq] at hm
  rcases hm with ⟨rfl, rfl⟩ | ⟨rfl, rfl⟩ | ⟨rfl, rfl⟩ | ⟨rfl, rfl⟩ | ⟨rfl, rfl⟩ | ⟨rfl, rfl⟩ | ⟨rfl, rfl⟩ | ⟨rfl, rfl⟩ | ⟨rfl, rfl⟩ | ⟨rfl, rfl⟩ | ⟨rfl, rfl⟩ | ⟨rfl, rfl⟩ | ⟨rfl, rfl⟩
  · rw [d0 h]; have := h.b3; exact decide_eq_false (by omega)
  · rw [d1 h]; have := h.b3; exact decide_eq_false (by omega)
  · rw [d17 h]; have := h.b3; exact decide_eq_false (by omega)
  · rw [d2 h]; have := h.b3; exact decide_eq_true (by omega)
  · rw [d3 h]; have := h.b3; exact decide_eq_false (by omega)
  · rw [d4 h]; have := h.b3; exact decide_eq_false (by omega)
  · rw [d5 h]; have := h.b3; exact decide_eq_false (by omega)
  · rw [d6 h]; have := h.b3; exact decide_eq_true (by omega)
  · rw [d18 h]; have := h.b0; have := h.b1; have := h.b2; unfold valA; simp only [SE.den, arAdd, arMul, arRem, IntKind.wrap_u64, IntKind.wrap_i64, clI, ]; exact decide_eq_false (by simp only [Decidable.not_not]; (repeat' split) <;> omega)
  · rw [d8 h]; have := h.b3; exact decide_eq_false (by omega)
  · rw [d9 h]; have := h.b3; exact decide_eq_false (by simp only [clI]; (repeat' split) <;> omega)
  · rw [d12 h]; have := h.b3; exact decide_eq_false (by simp only [clI]; (repeat' split) <;> omega)
  · rw [d11 h]; have := h.b3; exact decide_eq_false (by omega)
theorem h14 (h : BdI E) (hL : E.i 0 < 0) (hC : 0 ≤ E.i 1 ∧ E.i 1 ≤ 1) (hN : E.i 2 < 0) (hQ : 1 < E.i 3 / 16 % 16) (hR : E.i 3 % 16 ≤ 4) : FaOk E ⟨fa14, rrI⟩ := by
  refine faOk_of h fun c b hm => ?_
  simp only [fa14, List.mem_cons, List.not_mem_nil, or_false, Prod.mk.injEq] at hm
  rcases hm with ⟨rfl, rfl⟩ | ⟨rfl, rfl⟩ | ⟨rfl, rfl⟩ | ⟨rfl, rfl⟩ | ⟨rfl, rfl⟩ | ⟨rfl, rfl⟩ | ⟨rfl, rfl⟩ | ⟨rfl, rfl⟩ | ⟨rfl, rfl⟩ | ⟨rfl, rfl⟩ | ⟨rfl, rfl⟩ | ⟨rfl, rfl⟩ | ⟨rfl, rfl⟩
  · rw [d0 h]; have := h.b3; exact decide_eq_false (by omega)
  · rw [d1 h]; have := h.b3; exact decide_eq_false (by omega)
  · rw [d17 h]; have := h.b3; exact decide_eq_false (by omega)
  · rw [d2 h]; have := h.b3; exact decide_eq_true (by omega)
  · rw [d3 h]; have := h.b3; exact decide_eq_false (by omega)
  · rw [d4 h]; have := h.b3; exact decide_eq_true (by omega)
  · rw [d5 h]; have := h.b3; exact decide_eq_false (by omega)
  · rw [d6 h]; have := h.b3; exact decide_eq_false (by omega)
  · rw [d18 h]; have := h.b0; have := h.b1; have := h.b2; unfold valA; simp only [SE.den, arAdd, arMul, arRem, IntKind.wrap_u64, IntKind.wrap_i64, clI, ]; exact decide_eq_false (by simp only [Decidable.not_not]; (repeat' split) <;> omega)
  · rw [d8 h]; have := h.b3; exact decide_eq_false (by omega)
  · rw [d13 h]; have := h.b3; exact decide_eq_false (by simp only [clI]; (repeat' split) <;> omega)
  · rw [d10 h]; have := h.b3; exact decide_eq_false (by simp only [clI]; (repeat' split) <;> omega)
  · rw [d11 h]; have := h.b3; exact decide_eq_false (by omega)
theorem h15 (h : BdI E) (hL : E.i 0 < 0) (hC : 0 ≤ E.i 1 ∧ E.i 1 ≤ 1) (hN : E.i 2 < 0) (hQ : 1 < E.i 3 / 16 % 16) (hR : 4 < E.i 3 % 16) : FaOk E ⟨fa15, rrI⟩ := by
  refine faOk_of h fun c b hm => ?_
  simp only [fa15, List.mem_cons, List.not_mem_nil, or_false, Prod.mk.injEq] at hm
  rcases hm with ⟨rfl, rfl⟩ | ⟨rfl, rfl⟩ | ⟨rfl, rfl⟩ | ⟨rfl, rfl⟩ | ⟨rfl, rfl⟩ | ⟨rfl, rfl⟩ | ⟨rfl, rfl⟩ | ⟨rfl, rfl⟩ | ⟨rfl, rfl⟩ | ⟨rfl, rfl⟩ | ⟨rfl, rfl⟩ | ⟨rfl, rfl⟩ | ⟨rfl, rfl⟩
  · rw [d0 h]; have := h.b3; exact decide_eq_false (by omega)
  · rw [d1 h]; have := h.b3; exact decide_eq_false (by omega)
  · rw [d17 h]; have := h.b3; exact decide_eq_false (by omega)
  · rw [d2 h]; have := h.b3; exact decide_eq_true (by omega)
  · rw [d3 h]; have := h.b3; exact decide_eq_false (by omega)
  · rw [d4 h]; have := h.b3; exact decide_eq_true (by omega)
  · rw [d5 h]; have := h.b3; exact decide_eq_false (by omega)
  · rw [d6 h]; have := h.b3; exact decide_eq_true (by omega)
  · rw [d18 h]; have := h.b0; have := h.b1; have := h.b2; unfold valA; simp only [SE.den, arAdd, arMul, arRem, IntKind.wrap_u64, IntKind.wrap_i64, clI, ]; exact decide_eq_false (by simp only [Decidable.not_not]; (repeat' split) <;> omega)
  · rw [d8 h]; have := h.b3; exact decide_eq_false (by omega)
  · rw [d13 h]; have := h.b3; exact decide_eq_false (by simp only [clI]; (repeat' split) <;> omega)
  · rw [d12 h]; have := h.b3; exact decide_eq_false (by simp only [clI]; (repeat' split) <;> omega)
  · rw [d11 h]; have := h.b3; exact decide_eq_false (by omega)
theorem h16 (h : BdI E) (hL : E.i 0 < 0) (hC : 0 ≤ E.i 1 ∧ E.i 1 ≤ 1) (hN : 0 ≤ E.i 2 ∧ E.i 2 ≤ 4) (hQ : E.i 3 / 16 % 16 ≤ 1) (hR : E.i 3 % 16 ≤ 4) : FaOk E ⟨fa16, rrI⟩ := by
  refine faOk_of h fun c b hm => ?_
  simp only [fa16, List.mem_cons, List.not_mem_nil, or_false, Prod.mk.injEq] at hm
  rcases hm with ⟨rfl, rfl⟩ | ⟨rfl, rfl⟩ | ⟨rfl, rfl⟩ | ⟨rfl, rfl⟩ | ⟨rfl, rfl⟩ | ⟨rfl, rfl⟩ | ⟨rfl, rfl⟩ | ⟨rfl, rfl⟩ | ⟨rfl, rfl⟩ | ⟨rfl, rfl⟩ | ⟨rfl, rfl⟩ | ⟨rfl, rfl⟩ | ⟨rfl, rfl⟩ | ⟨rfl, rfl⟩
  · rw [d0 h]; have := h.b3; exact decide_eq_false (by omega)
  · rw [d1 h]; have := h.b3; exact decide_eq_false (by omega)
  · rw [d17 h]; have := h.b3; exact decide_eq_false (by omega)
  · rw [d2 h]; have := h.b3; exact decide_eq_false (by omega)
  · rw [d14 h]; have := h.b3; exact decide_eq_false (by omega)
  · rw [d3 h]; have := h.b3; exact decide_eq_false (by omega)
  · rw [d4 h]; have := h.b3; exact decide_eq_false (by omega)
  · rw [d5 h]; have := h.b3; exact decide_eq_false (by omega)
  · rw [d6 h]; have := h.b3; exact decide_eq_false (by omega)
  · rw [d19 h]; have := h.b0; have := h.b1; have := h.b2; unfold valA; simp only [SE.den, arAdd, arMul, arRem, IntKind.wrap_u64, IntKind.wrap_i64, clI, ]; exact decide_eq_false (by simp only [Decidable.not_not]; (repeat' split) <;> omega)
  · rw [d8 h]; have := h.b3; exact decide_eq_false (by omega)
  · rw [d9 h]; have := h.b3; exact decide_eq_false (by simp only [clI]; (repeat' split) <;> omega)
  · rw [d10 h]; have := h.b3; exact decide_eq_false (by simp only [clI]; (repeat' split) <;> omega)
  · rw [d11 h]; have := h.b3; exact decide_eq_false (by omega)
theorem h17 (h : BdI E) (hL : E.i 0 < 0) (hC : 0 ≤ E.i 1 ∧ E.i 1 ≤ 1) (hN : 0 ≤ E.i 2 ∧ E.i 2 ≤ 4) (hQ : E.i 3 / 16 % 16 ≤ 1) (hR : 4 < E.i 3 % 16) : FaOk E ⟨fa17, rrI⟩ := by
  refine faOk_of h fun c b hm => ?_
  simp only [fa17, List.mem_cons, List.not_mem_nil, or_false, Prod.mk.injEq] at hm
  rcases hm with ⟨rfl, rfl⟩ | ⟨rfl, rfl⟩ | ⟨rfl, rfl⟩ | ⟨rfl, rfl⟩ | ⟨rfl, rfl⟩ | ⟨rfl, rfl⟩ | ⟨rfl, rfl⟩ | ⟨rfl, rfl⟩ | ⟨rfl, rfl⟩ | ⟨rfl, rfl⟩ | ⟨rfl, rfl⟩ | ⟨rfl, rfl⟩ | ⟨rfl, rfl⟩ | ⟨rfl, rfl⟩
  · rw [d0 h]; have := h.b3; exact decide_eq_false (by omega)
  · rw [d1 h]; have := h.b3; exact decide_eq_false (by omega)
  · rw [d17 h]; have := h.b3; exact decide_eq_false (by omega)
  · rw [d2 h]; have := h.b3; exact decide_eq_false (by omega)
  · rw [d14 h]; have := h.b3; exact decide_eq_false (by omega)
  · rw [d3 h]; have := h.b3; exact decide_eq_false (by omega)
  · rw [d4 h]; have := h.b3; exact decide_eq_false (by omega)
  · rw [d5 h]; have := h.b3; exact decide_eq_false (by omega)
  · rw [d6 h]; have := h.b3; exact decide_eq_true (by omega)
  · rw [d19 h]; have := h.b0; have := h.b1; have := h.b2; unfold valA; simp only [SE.den, arAdd, arMul, arRem, IntKind.wrap_u64, IntKind.wrap_i64, clI, ]; exact decide_eq_false (by simp only [Decidable.not_not]; (repeat' split) <;> omega)
  · rw [d8 h]; have := h.b3; exact decide_eq_false (by omega)
  · rw [d9 h]; have := h.b3; exact decide_eq_false (by simp only [clI]; (repeat' split) <;> omega)
  · rw [d12 h]; have := h.b3; exact decide_eq_false (by simp only [clI]; (repeat' split) <;> omega)
  · rw [d11 h]; have := h.b3; exact decide_eq_false (by omega)
theorem h18 (h : BdI E) (hL : E.i 0 < 0) (hC : 0 ≤ E.i 1 ∧ E.i 1 ≤ 1) (hN : 0 ≤ E.i 2 ∧ E.i 2 ≤ 4) (hQ : 1 < E.i 3 / 16 % 16) (hR : E.i 3 % 16 ≤ 4) : FaOk E ⟨fa18, rrI⟩ := by
  refine faOk_of h fun c b hm => ?_
  simp only [fa18, List.mem_cons, List.not_mem_nil, or_false, Prod.mk.injEq] at hm
  rcases hm with ⟨rfl, rfl⟩ | ⟨rfl, rfl⟩ | ⟨rfl, rfl⟩ | ⟨rfl, rfl⟩ | ⟨rfl, rfl⟩ | ⟨rfl, rfl⟩ | ⟨rfl, rfl⟩ | ⟨rfl, rfl⟩ | ⟨rfl, rfl⟩ | ⟨rfl, rfl⟩ | ⟨rfl, rfl⟩ | ⟨rfl, rfl⟩ | ⟨rfl, rfl⟩ | ⟨rfl, rfl⟩
  · rw [d0 h]; have := h.b3; exact decide_eq_false (by omega)
  · rw [d1 h]; have := h.b3; exact decide_eq_false (by omega)
  · rw [d17 h]; have := h.b3; exact decide_eq_false (by omega)
  · rw [d2 h]; have := h.b3; exact decide_eq_false (by omega)
  · rw [d14 h]; have := h.b3; exact decide_eq_false (by omega)
  · rw [d3 h]; have := h.b3; exact decide_eq_false (by omega)
  · rw [d4 h]; have := h.b3; exact decide_eq_true (by omega)
  · rw [d5 h]; have := h.b3; exact decide_eq_false (by omega)
  · rw [d6 h]; have := h.b3; exact decide_eq_false (by omega)
  · rw [d19 h]; have := h.b0; have := h.b1; have := h.b2; unfold valA; simp only [SE.den, arAdd, arMul, arRem, IntKind.wrap_u64, IntKind.wrap_i64, clI, ]; exact decide_eq_false (by simp only [Decidable.not_not]; (repeat' split) <;> omega)
  · rw [d8 h]; have := h.b3; exact decide_eq_false (by omega)
  · rw [d13 h]; have := h.b3; exact decide_eq_false (by simp only [clI]; (repeat' split) <;> omega)
  · rw [d10 h]; have := h.b3; exact decide_eq_false (by simp only [clI]; (repeat' split) <;> omega)
  · rw [d11 h]; have := h.b3; exact decide_eq_false (by omega)
theorem h19 (h : BdI E) (hL : E.i 0 < 0) (hC : 0 ≤ E.i 1 ∧ E.i 1 ≤ 1) (hN : 0 ≤ E.i 2 ∧ E.i 2 ≤ 4) (hQ : 1 < E.i 3 / 16 % 16) (hR : 4 < E.i 3 % 16) : FaOk E ⟨fa19, rrI⟩ := by
  refine faOk_of h fun c b hm => ?_
  simp only [fa19, List.mem_cons, List.not_mem_nil, or_false, Prod.mk.injEq] at hm
  rcases hm with ⟨rfl, rfl⟩ | ⟨rfl, rfl⟩ | ⟨rfl, rfl⟩ | ⟨rfl, rfl⟩ | ⟨rfl, rfl⟩ | ⟨rfl, rfl⟩ | ⟨rfl, rfl⟩ | ⟨rfl, rfl⟩ | ⟨rfl, rfl⟩ | ⟨rfl, rfl⟩ | ⟨rfl, rfl⟩ | ⟨rfl, rfl⟩ | ⟨rfl, rfl⟩ | ⟨rfl, rfl⟩
  · rw [d0 h]; have := h.b3; exact decide_eq_false (by omega)
  · rw [d1 h]; have := h.b3; exact decide_eq_false (by omega)
  · rw [d17 h]; have := h.b3; exact decide_eq_false (by omega)
  · rw [d2 h]; have := h.b3; exact decide_eq_false (by omega)
  · rw [d14 h]; have := h.b3; exact decide_eq_false (by omega)
  · rw [d3 h]; have := h.b3; exact decide_eq_false (by omega)
  · rw [d4 h]; have := h.b3; exact decide_eq_true (by omega)
  · rw [d5 h]; have := h.b3; exact decide_eq_false (by omega)
  · rw [d6 h]; have := h.b3; exact decide_eq_true (by omega)
  · rw [d19 h]; have := h.b0; have := h.b1; have := h.b2; unfold valA; simp only [SE.den, arAdd, arMul, arRem, IntKind.wrap_u64, IntKind.wrap_i64, clI, ]; exact decide_eq_false (by simp only [Decidable.not_not]; (repeat' split) <;> omega)
  · rw [d8 h]; have := h.b3; exact decide_eq_false (by omega)
  · rw [d13 h]; have := h.b3; exact decide_eq_false (by simp only [clI]; (repeat' split) <;> omega)
  · rw [d12 h]; have := h.b3; exact decide_eq_false (by simp only [clI]; (repeat' split) <;> omega)
  · rw [d11 h]; have := h.b3; exact decide_eq_false (by omega)
theorem h20 (h : BdI E) (hL : E.i 0 < 0) (hC : 0 ≤ E.i 1 ∧ E.i 1 ≤ 1) (hN : 4 < E.i 2) (hQ : E.i 3 / 16 % 16 ≤ 1) (hR : E.i 3 % 16 ≤ 4) : FaOk E ⟨fa20, rrI⟩ := by
  refine faOk_of h fun c b hm => ?_
  simp only [fa20, List.mem_cons, List.not_mem_nil, or_false, Prod.mk.injEq] at hm
  rcases hm with ⟨rfl, rfl⟩ | ⟨rfl, rfl⟩ | ⟨rfl, rfl⟩ | ⟨rfl, rfl⟩ | ⟨rfl, rfl⟩ | ⟨rfl, rfl⟩ | ⟨rfl, rfl⟩ | ⟨rfl, rfl⟩ | ⟨rfl, rfl⟩ | ⟨rfl, rfl⟩ | ⟨rfl, rfl⟩ | ⟨rfl, rfl⟩ | ⟨rfl, rfl⟩ | ⟨rfl, rfl⟩
  · rw [d0 h]; have := h.b3; exact decide_eq_false (by omega)
  · rw [d1 h]; have := h.b3; exact decide_eq_false (by omega)
  · rw [d17 h]; have := h.b3; exact decide_eq_false (by omega)
  · rw [d2 h]; have := h.b3; exact decide_eq_false (by omega)
  · rw [d14 h]; have := h.b3; exact decide_eq_true (by omega)
  · rw [d3 h]; have := h.b3; exact decide_eq_false (by omega)
  · rw [d4 h]; have := h.b3; exact decide_eq_false (by omega)
  · rw [d5 h]; have := h.b3; exact decide_eq_false (by omega)
  · rw [d6 h]; have := h.b3; exact decide_eq_false (by omega)
  · rw [d20 h]; have := h.b0; have := h.b1; have := h.b2; unfold valA; simp only [SE.den, arAdd, arMul, arRem, IntKind.wrap_u64, IntKind.wrap_i64, clI, ]; exact decide_eq_false (by simp only [Decidable.not_not]; (repeat' split) <;> omega)
  · rw [d8 h]; have := h.b3; exact decide_eq_false (by omega)
  · rw [d9 h]; have := h.b3; exact decide_eq_false (by simp only [clI]; (repeat' split) <;> omega)
  · rw [d10 h]; have := h.b3; exact decide_eq_false (by simp only [clI]; (repeat' split) <;> omega)
  · rw [d11 h]; have := h.b3; exact decide_eq_false (by omega)
theorem h21 (h : BdI E) (hL : E.i 0 < 0) (hC : 0 ≤ E.i 1 ∧ E.i 1 ≤ 1) (hN : 4 < E.i 2) (hQ : E.i 3 / 16 % 16 ≤ 1) (hR : 4 < E.i 3 % 16) : FaOk E ⟨fa21, rrI⟩ := by
  refine faOk_of h fun c b hm => ?_
  simp only [fa21, List.mem_cons, List.not_mem_nil, or_false, Prod.mk.injEq] at hm
  rcases hm with ⟨rfl, rfl⟩ | ⟨rfl, rfl⟩ | ⟨rfl, rfl⟩ | ⟨rfl, rfl⟩ | ⟨rfl, rfl⟩ | ⟨rfl, rfl⟩ | ⟨rfl, rfl⟩ | ⟨rfl, rfl⟩ | ⟨rfl, rfl⟩ | ⟨rfl, rfl⟩ | ⟨rfl, rfl⟩ | ⟨rfl, rfl⟩ | ⟨rfl, rfl⟩ | ⟨rfl, rfl⟩
  · rw [d0 h]; have := h.b3; exact decide_eq_false (by omega)
  · rw [d1 h]; have := h.b3; exact decide_eq_false (by omega)
  · rw [d17 h]; have := h.b3; exact decide_eq_false (by omega)
  · rw [d2 h]; have := h.b3; exact decide_eq_false (by omega)
  · rw [d14 h]; have := h.b3; exact decide_eq_true (by omega)
  · rw [d3 h]; have := h.b3; exact decide_eq_false (by omega)
  · rw [d4 h]; have := h.b3; exact decide_eq_false (by omega)
  · rw [d5 h]; have := h.b3; exact decide_eq_false (by omega)
  · rw [d6 h]; have := h.b3; exact decide_eq_true (by omega)
  · rw [d20 h]; have := h.b0; have := h.b1; have := h.b2; unfold valA; simp only [SE.den, arAdd, arMul, arRem, IntKind.wrap_u64, IntKind.wrap_i64, clI, ]; exact decide_eq_false (by simp only [Decidable.not_not]; (repeat' split) <;> omega)
  · rw [d8 h]; have := h.b3; exact decide_eq_false (by omega)
  · rw [d9 h]; have := h.b3; exact decide_eq_false (by simp only [clI]; (repeat' split) <;> omega)
  · rw [d12 h]; have := h.b3; exact decide_eq_false (by simp only [clI]; (repeat' split) <;> omega)
  · rw [d11 h]; have := h.b3; exact decide_eq_false (by omega)
theorem h22 (h : BdI E) (hL : E.i 0 < 0) (hC : 0 ≤ E.i 1 ∧ E.i 1 ≤ 1) (hN : 4 < E.i 2) (hQ : 1 < E.i 3 / 16 % 16) (hR : E.i 3 % 16 ≤ 4) : FaOk E ⟨fa22, rrI⟩ := by
  refine faOk_of h fun c b hm => ?_
  simp only [fa22, List.mem_cons, List.not_mem_nil, or_false, Prod.mk.injEq] at hm
  rcases hm with ⟨rfl, rfl⟩ | ⟨rfl, rfl⟩ | ⟨rfl, rfl⟩ | ⟨rfl, rfl⟩ | ⟨rfl, rfl⟩ | ⟨rfl, rfl⟩ | ⟨rfl, rfl⟩ | ⟨rfl, rfl⟩ | ⟨rfl, rfl⟩ | ⟨rfl, rfl⟩ | ⟨rfl, rfl⟩ | ⟨rfl, rfl⟩ | ⟨rfl, rfl⟩ | ⟨rfl, rfl⟩
  · rw [d0 h]; have := h.b3; exact decide_eq_false (by omega)
  · rw [d1 h]; have := h.b3; exact decide_eq_false (by omega)
  · rw [d17 h]; have := h.b3; exact decide_eq_false (by omega)
  · rw [d2 h]; have := h.b3; exact decide_eq_false (by omega)
  · rw [d14 h]; have := h.b3; exact decide_eq_true (by omega)
  · rw [d3 h]; have := h.b3; exact decide_eq_false (by omega)
  · rw [d4 h]; have := h.b3; exact decide_eq_true (by omega)
  · rw [d5 h]; have := h.b3; exact decide_eq_false (by omega)
  · rw [d6 h]; have := h.b3; exact decide_eq_false (by omega)
  · rw [d20 h]; have := h.b0; have := h.b1; have := h.b2; unfold valA; simp only [SE.den, arAdd, arMul, arRem, IntKind.wrap_u64, IntKind.wrap_i64, clI, ]; exact decide_eq_false (by simp only [Decidable.not_not]; (repeat' split) <;> omega)
  · rw [d8 h]; have := h.b3; exact decide_eq_false (by omega)
  · rw [d13 h]; have := h.b3; exact decide_eq_false (by simp only [clI]; (repeat' split) <;> omega)
  · rw [d10 h]; have := h.b3; exact decide_eq_false (by simp only [clI]; (repeat' split) <;> omega)
  · rw [d11 h]; have := h.b3; exact decide_eq_false (by omega)
theorem h23 (h : BdI E) (hL : E.i 0 < 0) (hC : 0 ≤ E.i 1 ∧ E.i 1 ≤ 1) (hN : 4 < E.i 2) (hQ : 1 < E.i 3 / 16 % 16) (hR : 4 < E.i 3 % 16) : FaOk E ⟨fa23, rrI⟩ := by
  refine faOk_of h fun c b hm => ?_
  simp only [fa23, List.mem_cons, List.not_mem_nil, or_false, Prod.mk.injEq] at hm
  rcases hm with ⟨rfl, rfl⟩ | ⟨rfl, rfl⟩ | ⟨rfl, rfl⟩ | ⟨rfl, rfl⟩ | ⟨rfl, rfl⟩ | ⟨rfl, rfl⟩ | ⟨rfl, rfl⟩ | ⟨rfl, rfl⟩ | ⟨rfl, rfl⟩ | ⟨rfl, rfl⟩ | ⟨rfl, rfl⟩ | ⟨rfl, rfl⟩ | ⟨rfl, rfl⟩ | ⟨rfl, rfl⟩
  · rw [d0 h]; have := h.b3; exact decide_eq_false (by omega)
  · rw [d1 h]; have := h.b3; exact decide_eq_false (by omega)
  · rw [d17 h]; have := h.b3; exact decide_eq_false (by omega)
  · rw [d2 h]; have := h.b3; exact decide_eq_false (by omega)
  · rw [d14 h]; have := h.b3; exact decide_eq_true (by omega)
  · rw [d3 h]; have := h.b3; exact decide_eq_false (by omega)
  · rw [d4 h]; have := h.b3; exact decide_eq_true (by omega)
  · rw [d5 h]; have := h.b3; exact decide_eq_false (by omega)
  · rw [d6 h]; have := h.b3; exact decide_eq_true (by omega)
  · rw [d20 h]; have := h.b0; have := h.b1; have := h.b2; unfold valA; simp only [SE.den, arAdd, arMul, arRem, IntKind.wrap_u64, IntKind.wrap_i64, clI, ]; exact decide_eq_false (by simp only [Decidable.not_not]; (repeat' split) <;> omega)
  · rw [d8 h]; have := h.b3; exact decide_eq_false (by omega)
  · rw [d13 h]; have := h.b3; exact decide_eq_false (by simp only [clI]; (repeat' split) <;> omega)
  · rw [d12 h]; have := h.b3; exact decide_eq_false (by simp only [clI]; (repeat' split) <;> omega)
  · rw [d11 h]; have := h.b3; exact decide_eq_false (by omega)
theorem h24 (h : BdI E) (hL : E.i 0 < 0) (hC : 1 < E.i 1) (hN : E.i 2 < 0) (hQ : E.i 3 / 16 % 16 ≤ 1) (hR : E.i 3 % 16 ≤ 4) : FaOk E ⟨fa24, rrI⟩ := by
  refine faOk_of h fun c b hm => ?_
  simp only [fa24, List.mem_cons, List.not_mem_nil, or_false, Prod.mk.injEq] at hm
  rcases hm with ⟨rfl, rfl⟩ | ⟨rfl, rfl⟩ | ⟨rfl, rfl⟩ | ⟨rfl, rfl⟩ | ⟨rfl, rfl⟩ | ⟨rfl, rfl⟩ | ⟨rfl, rfl⟩ | ⟨rfl, rfl⟩ | ⟨rfl, rfl⟩ | ⟨rfl, rfl⟩ | ⟨rfl, rfl⟩ | ⟨rfl, rfl⟩ | ⟨rfl, rfl⟩
  · rw [d0 h]; have := h.b3; exact decide_eq_false (by omega)
  · rw [d1 h]; have := h.b3; exact decide_eq_false (by omega)
  · rw [d17 h]; have := h.b3; exact decide_eq_true (by omega)
  · rw [d2 h]; have := h.b3; exact decide_eq_true (by omega)
  · rw [d3 h]; have := h.b3; exact decide_eq_false (by omega)
  · rw [d4 h]; have := h.b3; exact decide_eq_false (by omega)
  · rw [d5 h]; have := h.b3; exact decide_eq_false (by omega)
  · rw [d6 h]; have := h.b3; exact decide_eq_false (by omega)
  · rw [d21 h]; have := h.b0; have := h.b1; have := h.b2; unfold valA; simp only [SE.den, arAdd, arMul, arRem, IntKind.wrap_u64, IntKind.wrap_i64, clI, ]; exact decide_eq_false (by simp only [Decidable.not_not]; (repeat' split) <;> omega)
  · rw [d8 h]; have := h.b3; exact decide_eq_false (by omega)
  · rw [d9 h]; have := h.b3; exact decide_eq_false (by simp only [clI]; (repeat' split) <;> omega)
  · rw [d10 h]; have := h.b3; exact decide_eq_false (by simp only [clI]; (repeat' split) <;> omega)
  · rw [d11 h]; have := h.b3; exact decide_eq_false (by omega)
theorem h25 (h : BdI E) (hL : E.i 0 < 0) (hC : 1 < E.i 1) (hN : E.i 2 < 0) (hQ : E.i 3 / 16 % 16 ≤ 1) (hR : 4 < E.i 3 % 16) : FaOk E ⟨fa25, rrI⟩ := by
  refine faOk_of h fun c b hm => ?_
  simp only [fa25, List.mem_cons, List.not_mem_nil, or_false, Prod.mk.injEq] at hm
  rcases hm with ⟨rfl, rfl⟩ | ⟨rfl, rfl⟩ | ⟨rfl, rfl⟩ | ⟨rfl, rfl⟩ | ⟨rfl, rfl⟩ | ⟨rfl, rfl⟩ | ⟨rfl, rfl⟩ | ⟨rfl, rfl⟩ | ⟨rfl, rfl⟩ | ⟨rfl, rfl⟩ | ⟨rfl, rfl⟩ | ⟨rfl, rfl⟩ | ⟨rfl, rfl⟩
  · rw [d0 h]; have := h.b3; exact decide_eq_false (by omega)
  · rw [d1 h]; have := h.b3; exact decide_eq_false (by omega)
  · rw [d17 h]; have := h.b3; exact decide_eq_true (by omega)
  · rw [d2 h]; have := h.b3; exact decide_eq_true (by omega)
  · rw [d3 h]; have := h.b3; exact decide_eq_false (by omega)
  · rw [d4 h]; have := h.b3; exact decide_eq_false (by omega)
  · rw [d5 h]; have := h.b3; exact decide_eq_false (by omega)
  · rw [d6 h]; have := h.b3; exact decide_eq_true (by omega)
  · rw [d21 h]; have := h.b0; have := h.b1; have := h.b2; unfold valA; simp only [SE.den, arAdd, arMul, arRem, IntKind.wrap_u64, IntKind.wrap_i64, clI, ]; exact decide_eq_false (by simp only [Decidable.not_not]; (repeat' split) <;> omega)
  · rw [d8 h]; have := h.b3; exact decide_eq_false (by omega)
  · rw [d9 h]; have := h.b3; exact decide_eq_false (by simp only [clI]; (repeat' split) <;> omega)
  · rw [d12 h]; have := h.b3; exact decide_eq_false (by simp only [clI]; (repeat' split) <;> omega)
  · rw [d11 h]; have := h.b3; exact decide_eq_false (by omega)
theorem h26 (h : BdI E) (hL : E.i 0 < 0) (hC : 1 < E.i 1) (hN : E.i 2 < 0) (hQ : 1 < E.i 3 / 16 % 16) (hR : E.i 3 % 16 ≤ 4) : FaOk E ⟨fa26, rrI⟩ := by
  refine faOk_of h fun c b hm => ?_
  simp only [fa26, List.mem_cons, List.not_mem_nil, or_false, Prod.mk.injEq] at hm
  rcases hm with ⟨rfl, rfl⟩ | ⟨rfl, rfl⟩ | ⟨rfl, rfl⟩ | ⟨rfl, rfl⟩ | ⟨rfl, rfl⟩ | ⟨rfl, rfl⟩ | ⟨rfl, rfl⟩ | ⟨rfl, rfl⟩ | ⟨rfl, rfl⟩ | ⟨rfl, rfl⟩ | ⟨rfl, rfl⟩ | ⟨rfl, rfl⟩ | ⟨rfl, rfl⟩
  · rw [d0 h]; have := h.b3; exact decide_eq_false (by omega)
  · rw [d1 h]; have := h.b3; exact decide_eq_false (by omega)
  · rw [d17 h]; have := h.b3; exact decide_eq_true (by omega)
  · rw [d2 h]; have := h.b3; exact decide_eq_true (by omega)
  · rw [d3 h]; have := h.b3; exact decide_eq_false (by omega)
  · rw [d4 h]; have := h.b3; exact decide_eq_true (by omega)
  · rw [d5 h]; have := h.b3; exact decide_eq_false (by omega)
  · rw [d6 h]; have := h.b3; exact decide_eq_false (by omega)
  · rw [d21 h]; have := h.b0; have := h.b1; have := h.b2; unfold valA; simp only [SE.den, arAdd, arMul, arRem, IntKind.wrap_u64, IntKind.wrap_i64, clI, ]; exact decide_eq_false (by simp only [Decidable.not_not]; (repeat' split) <;> omega)
  · rw [d8 h]; have := h.b3; exact decide_eq_false (by omega)
  · rw [d13 h]; have := h.b3; exact decide_eq_false (by simp only [clI]; (repeat' split) <;> omega)
  · rw [d10 h]; have := h.b3; exact decide_eq_false (by simp only [clI]; (repeat' split) <;> omega)
  · rw [d11 h]; have := h.b3; exact decide_eq_false (by omega)
theorem h27 (h : BdI E) (hL : E.i 0 < 0) (hC : 1 < E.i 1) (hN : E.i 2 < 0) (hQ : 1 < E.i 3 / 16 % 16) (hR : 4 < E.i 3 % 16) : FaOk E ⟨fa27, rrI⟩ := by
  refine faOk_of h fun c b hm => ?_
  simp only [fa27, List.mem_cons, List.not_mem_nil, or_false, Prod.mk.injEq] at hm
  rcases hm with ⟨rfl, rfl⟩ | ⟨rfl, rfl⟩ | ⟨rfl, rfl⟩ | ⟨rfl, rfl⟩ | ⟨rfl, rfl⟩ | ⟨rfl, rfl⟩ | ⟨rfl, rfl⟩ | ⟨rfl, rfl⟩ | ⟨rfl, rfl⟩ | ⟨rfl, rfl⟩ | ⟨rfl, rfl⟩ | ⟨rfl, rfl⟩ | ⟨rfl, rfl⟩
  · rw [d0 h]; have := h.b3; exact decide_eq_false (by omega)
  · rw [d1 h]; have := h.b3; exact decide_eq_false (by omega)
  · rw [d17 h]; have := h.b3; exact decide_eq_true (by omega)
  · rw [d2 h]; have := h.b3; exact decide_eq_true (by omega)
  · rw [d3 h]; have := h.b3; exact decide_eq_false (by omega)
  · rw [d4 h]; have := h.b3; exact decide_eq_true (by omega)
  · rw [d5 h]; have := h.b3; exact decide_eq_false (by omega)
  · rw [d6 h]; have := h.b3; exact decide_eq_true (by omega)
  · rw [d21 h]; have := h.b0; have := h.b1; have := h.b2; unfold valA; simp only [SE.den, arAdd, arMul, arRem, IntKind.wrap_u64, IntKind.wrap_i64, clI, ]; exact decide_eq_false (by simp only [Decidable.not_not]; (repeat' split) <;> omega)
  · rw [d8 h]; have := h.b3; exact decide_eq_false (by omega)
  · rw [d13 h]; have := h.b3; exact decide_eq_false (by simp only [clI]; (repeat' split) <;> omega)
  · rw [d12 h]; have := h.b3; exact decide_eq_false (by simp only [clI]; (repeat' split) <;> omega)
  · rw [d11 h]; have := h.b3; exact decide_eq_false (by omega)
theorem h28 (h : BdI E) (hL : E.i 0 < 0) (hC : 1 < E.i 1) (hN : 0 ≤ E.i 2 ∧ E.i 2 ≤ 4) (hQ : E.i 3 / 16 % 16 ≤ 1) (hR : E.i 3 % 16 ≤ 4) : FaOk E ⟨fa28, rrI⟩ := by
  refine faOk_of h fun c b hm => ?_
  simp only [fa28, List.mem_cons, List.not_mem_nil, or_false, Prod.mk.injEq] at hm
  rcases hm with ⟨rfl, rfl⟩ | ⟨rfl, rfl⟩ | ⟨rfl, rfl⟩ | ⟨rfl, rfl⟩ | ⟨rfl, rfl⟩ | ⟨rfl, rfl⟩ | ⟨rfl, rfl⟩ | ⟨rfl, rfl⟩ | ⟨rfl, rfl⟩ | ⟨rfl, rfl⟩ | ⟨rfl, rfl⟩ | ⟨rfl, rfl⟩ | ⟨rfl, rfl⟩ | ⟨rfl, rfl⟩
  · rw [d0 h]; have := h.b3; exact decide_eq_false (by omega)
  · rw [d1 h]; have := h.b3; exact decide_eq_false (by omega)
  · rw [d17 h]; have := h.b3; exact decide_eq_true (by omega)
  · rw [d2 h]; have := h.b3; exact decide_eq_false (by omega)
  · rw [d14 h]; have := h.b3; exact decide_eq_false (by omega)
  · rw [d3 h]; have := h.b3; exact decide_eq_false (by omega)
  · rw [d4 h]; have := h.b3; exact decide_eq_false (by omega)
  · rw [d5 h]; have := h.b3; exact decide_eq_false (by omega)
  · rw [d6 h]; have := h.b3; exact decide_eq_false (by omega)
  · rw [d22 h]; have := h.b0; have := h.b1; have := h.b2; unfold valA; simp only [SE.den, arAdd, arMul, arRem, IntKind.wrap_u64, IntKind.wrap_i64, clI, ]; exact decide_eq_false (by simp only [Decidable.not_not]; (repeat' split) <;> omega)
  · rw [d8 h]; have := h.b3; exact decide_eq_false (by omega)
  · rw [d9 h]; have := h.b3; exact decide_eq_false (by simp only [clI]; (repeat' split) <;> omega)
  · rw [d10 h]; have := h.b3; exact decide_eq_false (by simp only [clI]; (repeat' split) <;> omega)
  · rw [d11 h]; have := h.b3; exact decide_eq_false (by omega)
theorem h29 (h : BdI E) (hL : E.i 0 < 0) (hC : 1 < E.i 1) (hN : 0 ≤ E.i 2 ∧ E.i 2 ≤ 4) (hQ : E.i 3 / 16 % 16 ≤ 1) (hR : 4 < E.i 3 % 16) : FaOk E ⟨fa29, rrI⟩ := by
  refine faOk_of h fun c b hm => ?_
  simp only [fa29, List.mem_cons, List.not_mem_nil, or_false, Prod.mk.injEq] at hm
  rcases hm with ⟨rfl, rfl⟩ | ⟨rfl, rfl⟩ | ⟨rfl, rfl⟩ | ⟨rfl, rfl⟩ | ⟨rfl, rfl⟩ | ⟨rfl, rfl⟩ | ⟨rfl, rfl⟩ | ⟨rfl, rfl⟩ | ⟨rfl, rfl⟩ | ⟨rfl, rfl⟩ | ⟨rfl, rfl⟩ | ⟨rfl, rfl⟩ | ⟨rfl, rfl⟩ | ⟨rfl, rfl⟩
  · rw [d0 h]; have := h.b3; exact decide_eq_false (by omega)
  · rw [d1 h]; have := h.b3; exact decide_eq_false (by omega)
  · rw [d17 h]; have := h.b3; exact decide_eq_true (by omega)
  · rw [d2 h]; have := h.b3; exact decide_eq_false (by omega)
  · rw [d14 h]; have := h.b3; exact decide_eq_false (by omega)
  · rw [d3 h]; have := h.b3; exact decide_eq_false (by omega)
  · rw [d4 h]; have := h.b3; exact decide_eq_false (by omega)
  · rw [d5 h]; have := h.b3; exact decide_eq_false (by omega)
  · rw [d6 h]; have := h.b3; exact decide_eq_true (by omega)
  · rw [d22 h]; have := h.b0; have := h.b1; have := h.b2; unfold valA; simp only [SE.den, arAdd, arMul, arRem, IntKind.wrap_u64, IntKind.wrap_i64, clI, ]; exact decide_eq_false (by simp only [Decidable.not_not]; (repeat' split) <;> omega)
  · rw [d8 h]; have := h.b3; exact decide_eq_false (by omega)
  · rw [d9 h]; have := h.b3; exact decide_eq_false (by simp only [clI]; (repeat' split) <;> omega)
  · rw [d12 h]; have := h.b3; exact decide_eq_false (by simp only [clI]; (repeat' split) <;> omega)
  · rw [d11 h]; have := h.b3; exact decide_eq_false (by omega)
theorem h30 (h : BdI E) (hL : E.i 0 < 0) (hC : 1 < E.i 1) (hN : 0 ≤ E.i 2 ∧ E.i 2 ≤ 4) (hQ : 1 < E.i 3 / 16 % 16) (hR : E.i 3 % 16 ≤ 4) : FaOk E ⟨fa30, rrI⟩ := by
  refine faOk_of h fun c b hm => ?_
  simp only [fa30, List.mem_cons, List.not_mem_nil, or_false, Prod.mk.injEq] at hm
  rcases hm with ⟨rfl, rfl⟩ | ⟨rfl, rfl⟩ | ⟨rfl, rfl⟩ | ⟨rfl, rfl⟩ | ⟨rfl, rfl⟩ | ⟨rfl, rfl⟩ | ⟨rfl, rfl⟩ | ⟨rfl, rfl⟩ | ⟨rfl, rfl⟩ | ⟨rfl, rfl⟩ | ⟨rfl, rfl⟩ | ⟨rfl, rfl⟩ | ⟨rfl, rfl⟩ | ⟨rfl, rfl⟩
  · rw [d0 h]; have := h.b3; exact decide_eq_false (by omega)
  · rw [d1 h]; have := h.b3; exact decide_eq_false (by omega)
  · rw [d17 h]; have := h.b3; exact decide_eq_true (by omega)
  · rw [d2 h]; have := h.b3; exact decide_eq_false (by omega)
  · rw [d14 h]; have := h.b3; exact decide_eq_false (by omega)
  · rw [d3 h]; have := h.b3; exact decide_eq_false (by omega)
  · rw [d4 h]; have := h.b3; exact decide_eq_true (by omega)
  · rw [d5 h]; have := h.b3; exact decide_eq_false (by omega)
  · rw [d6 h]; have := h.b3; exact decide_eq_false (by omega)
  · rw [d22 h]; have := h.b0; have := h.b1; have := h.b2; unfold valA; simp only [SE.den, arAdd, arMul, arRem, IntKind.wrap_u64, IntKind.wrap_i64, clI, ]; exact decide_eq_false (by simp only [Decidable.not_not]; (repeat' split) <;> omega)
  · rw [d8 h]; have := h.b3; exact decide_eq_false (by omega)
  · rw [d13 h]; have := h.b3; exact decide_eq_false (by simp only [clI]; (repeat' split) <;> omega)
  · rw [d10 h]; have := h.b3; exact decide_eq_false (by simp only [clI]; (repeat' split) <;> omega)
  · rw [d11 h]; have := h.b3; exact decide_eq_false (by omega)
theorem h31 (h : BdI E) (hL : E.i 0 < 0) (hC : 1 < E.i 1) (hN : 0 ≤ E.i 2 ∧ E.i 2 ≤ 4) (hQ : 1 < E.i 3 / 16 % 16) (hR : 4 < E.i 3 % 16) : FaOk E ⟨fa31, rrI⟩ := by
  refine faOk_of h fun c b hm => ?_
  simp only [fa31, List.mem_cons, List.not_mem_nil, or_false, Prod.mk.injEq] at hm
  rcases hm with ⟨rfl, rfl⟩ | ⟨rfl, rfl⟩ | ⟨rfl, rfl⟩ | ⟨rfl, rfl⟩ | ⟨rfl, rfl⟩ | ⟨rfl, rfl⟩ | ⟨rfl, rfl⟩ | ⟨rfl, rfl⟩ | ⟨rfl, rfl⟩ | ⟨rfl, rfl⟩ | ⟨rfl, rfl⟩ | ⟨rfl, rfl⟩ | ⟨rfl, rfl⟩ | ⟨rfl, rfl⟩
  · rw [d0 h]; have := h.b3; exact decide_eq_false (by omega)
  · rw [d1 h]; have := h.b3; exact decide_eq_false (by omega)
  · rw [d17 h]; have := h.b3; exact decide_eq_true (by omega)
  · rw [d2 h]; have := h.b3; exact decide_eq_false (by omega)
  · rw [d14 h]; have := h.b3; exact decide_eq_false (by omega)
  · rw [d3 h]; have := h.b3; exact decide_eq_false (by omega)
  · rw [d4 h]; have := h.b3; exact decide_eq_true (by omega)
  · rw [d5 h]; have := h.b3; exact decide_eq_false (by omega)
  · rw [d6 h]; have := h.b3; exact decide_eq_true (by omega)
  · rw [d22 h]; have := h.b0; have := h.b1; have := h.b2; unfold valA; simp only [SE.den, arAdd, arMul, arRem, IntKind.wrap_u64, IntKind.wrap_i64, clI, ]; exact decide_eq_false (by simp only [Decidable.not_not]; (repeat' split) <;> omega)
  · rw [d8 h]; have := h.b3; exact decide_eq_false (by omega)
  · rw [d13 h]; have := h.b3; exact decide_eq_false (by simp only [clI]; (repeat' split) <;> omega)
  · rw [d12 h]; have := h.b3; exact decide_eq_false (by simp only [clI]; (repeat' split) <;> omega)
  · rw [d11 h]; have := h.b3; exact decide_eq_false (by omega)
theorem h32 (h : BdI E) (hL : E.i 0 < 0) (hC : 1 < E.i 1) (hN : 4 < E.i 2) (hQ : E.i 3 / 16 % 16 ≤ 1) (hR : E.i 3 % 16 ≤ 4) : FaOk E ⟨fa32, rrI⟩ := by
  refine faOk_of h fun c b hm => ?_
  simp only [fa32, List.mem_cons, List.not_mem_nil, or_false, Prod.mk.injEq] at hm
  rcases hm with ⟨rfl, rfl⟩ | ⟨rfl, rfl⟩ | ⟨rfl, rfl⟩ | ⟨rfl, rfl⟩ | ⟨rfl, rfl⟩ | ⟨rfl, rfl⟩ | ⟨rfl, rfl⟩ | ⟨rfl, rfl⟩ | ⟨rfl, rfl⟩ | ⟨rfl, rfl⟩ | ⟨rfl, rfl⟩ | ⟨rfl, rfl⟩ | ⟨rfl, rfl⟩ | ⟨rfl, rfl⟩
  · rw [d0 h]; have := h.b3; exact decide_eq_false (by omega)
  · rw [d1 h]; have := h.b3; exact decide_eq_false (by omega)
  · rw [d17 h]; have := h.b3; exact decide_eq_true (by omega)
  · rw [d2 h]; have := h.b3; exact decide_eq_false (by omega)
  · rw [d14 h]; have := h.b3; exact decide_eq_true (by omega)
  · rw [d3 h]; have := h.b3; exact decide_eq_false (by omega)
  · rw [d4 h]; have := h.b3; exact decide_eq_false (by omega)
  · rw [d5 h]; have := h.b3; exact decide_eq_false (by omega)
  · rw [d6 h]; have := h.b3; exact decide_eq_false (by omega)
  · rw [d23 h]; have := h.b0; have := h.b1; have := h.b2; unfold valA; simp only [SE.den, arAdd, arMul, arRem, IntKind.wrap_u64, IntKind.wrap_i64, clI, ]; exact decide_eq_false (by simp only [Decidable.not_not]; (repeat' split) <;> omega)
  · rw [d8 h]; have := h.b3; exact decide_eq_false (by omega)
  · rw [d9 h]; have := h.b3; exact decide_eq_false (by simp only [clI]; (repeat' split) <;> omega)
  · rw [d10 h]; have := h.b3; exact decide_eq_false (by simp only [clI]; (repeat' split) <;> omega)
  · rw [d11 h]; have := h.b3; exact decide_eq_false (by omega)
theorem h33 (h : BdI E) (hL : E.i 0 < 0) (hC : 1 < E.i 1) (hN : 4 < E.i 2) (hQ : E.i 3 / 16 % 16 ≤ 1) (hR : 4 < E.i 3 % 16) : FaOk E ⟨fa33, rrI⟩ := by
  refine faOk_of h fun c b hm => ?_
  simp only [fa33, List.mem_cons, List.not_mem_nil, or_false, Prod.mk.injEq] at hm
  rcases hm with ⟨rfl, rfl⟩ | ⟨rfl, rfl⟩ | ⟨rfl, rfl⟩ | ⟨rfl, rfl⟩ | ⟨rfl, rfl⟩ | ⟨rfl, rfl⟩ | ⟨rfl, rfl⟩ | ⟨rfl, rfl⟩ | ⟨rfl, rfl⟩ | ⟨rfl, rfl⟩ | ⟨rfl, rfl⟩ | ⟨rfl, rfl⟩ | ⟨rfl, rfl⟩ | ⟨rfl, rfl⟩
  · rw [d0 h]; have := h.b3; exact decide_eq_false (by omega)
  · rw [d1 h]; have := h.b3; exact decide_eq_false (by omega)
  · rw [d17 h]; have := h.b3; exact decide_eq_true (by omega)
  · rw [d2 h]; have := h.b3; exact decide_eq_false (by omega)
  · rw [d14 h]; have := h.b3; exact decide_eq_true (by omega)
  · rw [d3 h]; have := h.b3; exact decide_eq_false (by omega)
  · rw [d4 h]; have := h.b3; exact decide_eq_false (by omega)
  · rw [d5 h]; have := h.b3; exact decide_eq_false (by omega)
  · rw [d6 h]; have := h.b3; exact decide_eq_true (by omega)
  · rw [d23 h]; have := h.b0; have := h.b1; have := h.b2; unfold valA; simp only [SE.den, arAdd, arMul, arRem, IntKind.wrap_u64, IntKind.wrap_i64, clI, ]; exact decide_eq_false (by simp only [Decidable.not_not]; (repeat' split) <;> omega)
  · rw [d8 h]; have := h.b3; exact decide_eq_false (by omega)
  · rw [d9 h]; have := h.b3; exact decide_eq_false (by simp only [clI]; (repeat' split) <;> omega)
  · rw [d12 h]; have := h.b3; exact decide_eq_false (by simp only [clI]; (repeat' split) <;> omega)
  · rw [d11 h]; have := h.b3; exact decide_eq_false (by omega)
theorem h34 (h : BdI E) (hL : E.i 0 < 0) (hC : 1 < E.i 1) (hN : 4 < E.i 2) (hQ : 1 < E.i 3 / 16 % 16) (hR : E.i 3 % 16 ≤ 4) : FaOk E ⟨fa34, rrI⟩ := by
  refine faOk_of h fun c b hm => ?_
  simp only [fa34, List.mem_cons, List.not_mem_nil, or_false, Prod.mk.injEq] at hm
  rcases hm with ⟨rfl, rfl⟩ | ⟨rfl, rfl⟩ | ⟨rfl, rfl⟩ | ⟨rfl, rfl⟩ | ⟨rfl, rfl⟩ | ⟨rfl, rfl⟩ | ⟨rfl, rfl⟩ | ⟨rfl, rfl⟩ | ⟨rfl, rfl⟩ | ⟨rfl, rfl⟩ | ⟨rfl, rfl⟩ | ⟨rfl, rfl⟩ | ⟨rfl, rfl⟩ | ⟨rfl, rfl⟩
  · rw [d0 h]; have := h.b3; exact decide_eq_false (by omega)
  · rw [d1 h]; have := h.b3; exact decide_eq_false (by omega)
  · rw [d17 h]; have := h.b3; exact decide_eq_true (by omega)
  · rw [d2 h]; have := h.b3; exact decide_eq_false (by omega)
  · rw [d14 h]; have := h.b3; exact decide_eq_true (by omega)
  · rw [d3 h]; have := h.b3; exact decide_eq_false (by omega)
  · rw [d4 h]; have := h.b3; exact decide_eq_true (by omega)
  · rw [d5 h]; have := h.b3; exact decide_eq_false (by omega)
  · rw [d6 h]; have := h.b3; exact decide_eq_false (by omega)
  · rw [d23 h]; have := h.b0; have := h.b1; have := h.b2; unfold valA; simp only [SE.den, arAdd, arMul, arRem, IntKind.wrap_u64, IntKind.wrap_i64, clI, ]; exact decide_eq_false (by simp only [Decidable.not_not]; (repeat' split) <;> omega)
  · rw [d8 h]; have := h.b3; exact decide_eq_false (by omega)
  · rw [d13 h]; have := h.b3; exact decide_eq_false (by simp only [clI]; (repeat' split) <;> omega)
  · rw [d10 h]; have := h.b3; exact decide_eq_false (by simp only [clI]; (repeat' split) <;> omega)
  · rw [d11 h]; have := h.b3; exact decide_eq_false (by omega)
theorem h35 (h : BdI E) (hL : E.i 0 < 0) (hC : 1 < E.i 1) (hN : 4 < E.i 2) (hQ : 1 < E.i 3 / 16 % 16) (hR : 4 < E.i 3 % 16) : FaOk E ⟨fa35, rrI⟩ := by
  refine faOk_of h fun c b hm => ?_
  simp only [fa35, List.mem_cons, List.not_mem_nil, or_false, Prod.mk.injEq] at hm
  rcases hm with ⟨rfl, rfl⟩ | ⟨rfl, rfl⟩ | ⟨rfl, rfl⟩ | ⟨rfl, rfl⟩ | ⟨rfl, rfl⟩ | ⟨rfl, rfl⟩ | ⟨rfl, rfl⟩ | ⟨rfl, rfl⟩ | ⟨rfl, rfl⟩ | ⟨rfl, rfl⟩ | ⟨rfl, rfl⟩ | ⟨rfl, rfl⟩ | ⟨rfl, rfl⟩ | ⟨rfl, rfl⟩
  · rw [d0 h]; have := h.b3; exact decide_eq_false (by omega)
  · rw [d1 h]; have := h.b3; exact decide_eq_false (by omega)
  · rw [d17 h]; have := h.b3; exact decide_eq_true (by omega)
  · rw [d2 h]; have := h.b3; exact decide_eq_false (by omega)
  · rw [d14 h]; have := h.b3; exact decide_eq_true (by omega)
  · rw [d3 h]; have := h.b3; exact decide_eq_false (by omega)
  · rw [d4 h]; have := h.b3; exact decide_eq_true (by omega)
  · rw [d5 h]; have := h.b3; exact decide_eq_false (by omega)
  · rw [d6 h]; have := h.b3; exact decide_eq_true (by omega)
  · rw [d23 h]; have := h.b0; have := h.b1; have := h.b2; unfold valA; simp only [SE.den, arAdd, arMul, arRem, IntKind.wrap_u64, IntKind.wrap_i64, clI, ]; exact decide_eq_false (by simp only [Decidable.not_not]; (repeat' split) <;> omega)
  · rw [d8 h]; have := h.b3; exact decide_eq_false (by omega)
  · rw [d13 h]; have := h.b3; exact decide_eq_false (by simp only [clI]; (repeat' split) <;> omega)
  · rw [d12 h]; have := h.b3; exact decide_eq_false (by simp only [clI]; (repeat' split) <;> omega)
  · rw [d11 h]; have := h.b3; exact decide_eq_false (by omega)
theorem h36 (h : BdI E) (hL : E.i 0 = 0) (hC : E.i 1 < 0) (hN : E.i 2 < 0) (hQ : E.i 3 / 16 % 16 ≤ 1) (hR : E.i 3 % 16 ≤ 4) : FaOk E ⟨fa36, rrI⟩ := by
  refine faOk_of h fun c b hm => ?_
  simp only [fa36, List.mem_cons, List.not_mem_nil, or_false, Prod.mk.injEq] at hm
  rcases hm with ⟨rfl, rfl⟩ | ⟨rfl, rfl⟩ | ⟨rfl, rfl⟩ | ⟨rfl, rfl⟩ | ⟨rfl, rfl⟩ | ⟨rfl, rfl⟩ | ⟨rfl, rfl⟩ | ⟨rfl, rfl⟩ | ⟨rfl, rfl⟩ | ⟨rfl, rfl⟩ | ⟨rfl, rfl⟩ | ⟨rfl, rfl⟩ | ⟨rfl, rfl⟩ | ⟨rfl, rfl⟩
  · rw [d0 h]; have := h.b3; exact decide_eq_false (by omega)
  · rw [d1 h]; have := h.b3; exact decide_eq_true (by omega)
  · rw [d2 h]; have := h.b3; exact decide_eq_true (by omega)
  · rw [d3 h]; have := h.b3; exact decide_eq_false (by omega)
  · rw [d4 h]; have := h.b3; exact decide_eq_false (by omega)
  · rw [d5 h]; have := h.b3; exact decide_eq_false (by omega)
  · rw [d6 h]; have := h.b3; exact decide_eq_false (by omega)
  · rw [d7 h]; have := h.b0; have := h.b1; have := h.b2; unfold valA; simp only [SE.den, arAdd, arMul, arRem, IntKind.wrap_u64, IntKind.wrap_i64, clI, ]; exact decide_eq_false (by simp only [Decidable.not_not]; (repeat' split) <;> omega)
  · rw [d8 h]; have := h.b3; exact decide_eq_false (by omega)
  · rw [d9 h]; have := h.b3; exact decide_eq_false (by simp only [clI]; (repeat' split) <;> omega)
  · rw [d10 h]; have := h.b3; exact decide_eq_false (by simp only [clI]; (repeat' split) <;> omega)
  · rw [d11 h]; have := h.b3; exact decide_eq_true (by omega)
  · rw [d24 h]; have := h.b3; exact decide_eq_true (by omega)
  · rw [d25 h]; have := h.b3; exact decide_eq_false (by omega)
theorem h37 (h : BdI E) (hL : E.i 0 = 0) (hC : E.i 1 < 0) (hN : E.i 2 < 0) (hQ : E.i 3 / 16 % 16 ≤ 1) (hR : 4 < E.i 3 % 16) : FaOk E ⟨fa37, rrI⟩ := by
  refine faOk_of h fun c b hm => ?_
  simp only [fa37, List.mem_cons, List.not_mem_nil, or_false, Prod.mk.injEq] at hm
  rcases hm with ⟨rfl, rfl⟩ | ⟨rfl, rfl⟩ | ⟨rfl, rfl⟩ | ⟨rfl, rfl⟩ | ⟨rfl, rfl⟩ | ⟨rfl, rfl⟩ | ⟨rfl, rfl⟩ | ⟨rfl, rfl⟩ | ⟨rfl, rfl⟩ | ⟨rfl, rfl⟩ | ⟨rfl, rfl⟩ | ⟨rfl, rfl⟩ | ⟨rfl, rfl⟩ | ⟨rfl, rfl⟩
  · rw [d0 h]; have := h.b3; exact decide_eq_false (by omega)
  · rw [d1 h]; have := h.b3; exact decide_eq_true (by omega)
  · rw [d2 h]; have := h.b3; exact decide_eq_true (by omega)
  · rw [d3 h]; have := h.b3; exact decide_eq_false (by omega)
  · rw [d4 h]; have := h.b3; exact decide_eq_false (by omega)
  · rw [d5 h]; have := h.b3; exact decide_eq_false (by omega)
  · rw [d6 h]; have := h.b3; exact decide_eq_true (by omega)
  · rw [d7 h]; have := h.b0; have := h.b1; have := h.b2; unfold valA; simp only [SE.den, arAdd, arMul, arRem, IntKind.wrap_u64, IntKind.wrap_i64, clI, ]; exact decide_eq_false (by simp only [Decidable.not_not]; (repeat' split) <;> omega)
  · rw [d8 h]; have := h.b3; exact decide_eq_false (by omega)
  · rw [d9 h]; have := h.b3; exact decide_eq_false (by simp only [clI]; (repeat' split) <;> omega)
  · rw [d12 h]; have := h.b3; exact decide_eq_false (by simp only [clI]; (repeat' split) <;> omega)
  · rw [d11 h]; have := h.b3; exact decide_eq_true (by omega)
  · rw [d24 h]; have := h.b3; exact decide_eq_true (by omega)
  · rw [d25 h]; have := h.b3; exact decide_eq_false (by omega)
theorem h38 (h : BdI E) (hL : E.i 0 = 0) (hC : E.i 1 < 0) (hN : E.i 2 < 0) (hQ : 1 < E.i 3 / 16 % 16) (hR : E.i 3 % 16 ≤ 4) : FaOk E ⟨fa38, rrI⟩ := by
  refine faOk_of h fun c b hm => ?_
  simp only [fa38, List.mem_cons, List.not_mem_nil, or_false, Prod.mk.injEq] at hm
  rcases hm with ⟨rfl, rfl⟩ | ⟨rfl, rfl⟩ | ⟨rfl, rfl⟩ | ⟨rfl, rfl⟩ | ⟨rfl, rfl⟩ | ⟨rfl, rfl⟩ | ⟨rfl, rfl⟩ | ⟨rfl, rfl⟩ | ⟨rfl, rfl⟩ | ⟨rfl, rfl⟩ | ⟨rfl, rfl⟩ | ⟨rfl, rfl⟩ | ⟨rfl, rfl⟩ | ⟨rfl, rfl⟩
  · rw [d0 h]; have := h.b3; exact decide_eq_false (by omega)
  · rw [d1 h]; have := h.b3; exact decide_eq_true (by omega)
  · rw [d2 h]; have := h.b3; exact decide_eq_true (by omega)
  · rw [d3 h]; have := h.b3; exact decide_eq_false (by omega)
  · rw [d4 h]; have := h.b3; exact decide_eq_true (by omega)
  · rw [d5 h]; have := h.b3; exact decide_eq_false (by omega)
  · rw [d6 h]; have := h.b3; exact decide_eq_false (by omega)
  · rw [d7 h]; have := h.b0; have := h.b1; have := h.b2; unfold valA; simp only [SE.den, arAdd, arMul, arRem, IntKind.wrap_u64, IntKind.wrap_i64, clI, ]; exact decide_eq_false (by simp only [Decidable.not_not]; (repeat' split) <;> omega)
  · rw [d8 h]; have := h.b3; exact decide_eq_false (by omega)
  · rw [d13 h]; have := h.b3; exact decide_eq_false (by simp only [clI]; (repeat' split) <;> omega)
  · rw [d10 h]; have := h.b3; exact decide_eq_false (by simp only [clI]; (repeat' split) <;> omega)
  · rw [d11 h]; have := h.b3; exact decide_eq_true (by omega)
  · rw [d24 h]; have := h.b3; exact decide_eq_true (by omega)
  · rw [d25 h]; have := h.b3; exact decide_eq_false (by omega)
theorem h39 (h : BdI E) (hL : E.i 0 = 0) (hC : E.i 1 < 0) (hN : E.i 2 < 0) (hQ : 1 < E.i 3 / 16 % 16) (hR : 4 < E.i 3 % 16) : FaOk E ⟨fa39, rrI⟩ := by
  refine faOk_of h fun c b hm => ?_
  simp only [fa39, List.mem_cons, List.not_mem_nil, or_false, Prod.mk.injEq] at hm
  rcases hm with ⟨rfl, rfl⟩ | ⟨rfl, rfl⟩ | ⟨rfl, rfl⟩ | ⟨rfl, rfl⟩ | ⟨rfl, rfl⟩ | ⟨rfl, rfl⟩ | ⟨rfl, rfl⟩ | ⟨rfl, rfl⟩ | ⟨rfl, rfl⟩ | ⟨rfl, rfl⟩ | ⟨rfl, rfl⟩ | ⟨rfl, rfl⟩ | ⟨rfl, rfl⟩ | ⟨rfl, rfl⟩
  · rw [d0 h]; have := h.b3; exact decide_eq_false (by omega)
  · rw [d1 h]; have := h.b3; exact decide_eq_true (by omega)
  · rw [d2 h]; have := h.b3; exact decide_eq_true (by omega)
  · rw [d3 h]; have := h.b3; exact decide_eq_false (by omega)
  · rw [d4 h]; have := h.b3; exact decide_eq_true (by omega)
  · rw [d5 h]; have := h.b3; exact decide_eq_false (by omega)
  · rw [d6 h]; have := h.b3; exact decide_eq_true (by omega)
  · rw [d7 h]; have := h.b0; have := h.b1; have := h.b2; unfold valA; simp only [SE.den, arAdd, arMul, arRem, IntKind.wrap_u64, IntKind.wrap_i64, clI, ]; exact decide_eq_false (by simp only [Decidable.not_not]; (repeat' split) <;> omega)
  · rw [d8 h]; have := h.b3; exact decide_eq_false (by omega)
  · rw [d13 h]; have := h.b3; exact decide_eq_false (by simp only [clI]; (repeat' split) <;> omega)
  · rw [d12 h]; have := h.b3; exact decide_eq_false (by simp only [clI]; (repeat' split) <;> omega)
  · rw [d11 h]; have := h.b3; exact decide_eq_true (by omega)
  · rw [d24 h]; have := h.b3; exact decide_eq_true (by omega)
  · rw [d25 h]; have := h.b3; exact decide_eq_false (by omega)
theorem h40 (h : BdI E) (hL : E.i 0 = 0) (hC : E.i 1 < 0) (hN : 0 ≤ E.i 2 ∧ E.i 2 ≤ 4) (hQ : E.i 3 / 16 % 16 ≤ 1) (hR : E.i 3 % 16 ≤ 4) : FaOk E ⟨fa40, rrI⟩ := by
  refine faOk_of h fun c b hm => ?_
  simp only [fa40, List.mem_cons, List.not_mem_nil, or_false, Prod.mk.injEq] at hm
  rcases hm with ⟨rfl, rfl⟩ | ⟨rfl, rfl⟩ | ⟨rfl, rfl⟩ | ⟨rfl, rfl⟩ | ⟨rfl, rfl⟩ | ⟨rfl, rfl⟩ | ⟨rfl, rfl⟩ | ⟨rfl, rfl⟩ | ⟨rfl, rfl⟩ | ⟨rfl, rfl⟩ | ⟨rfl, rfl⟩ | ⟨rfl, rfl⟩ | ⟨rfl, rfl⟩ | ⟨rfl, rfl⟩ | ⟨rfl, rfl⟩
  · rw [d0 h]; have := h.b3; exact decide_eq_false (by omega)
  · rw [d1 h]; have := h.b3; exact decide_eq_true (by omega)
  · rw [d2 h]; have := h.b3; exact decide_eq_false (by omega)
  · rw [d14 h]; have := h.b3; exact decide_eq_false (by omega)
  · rw [d3 h]; have := h.b3; exact decide_eq_false (by omega)
  · rw [d4 h]; have := h.b3; exact decide_eq_false (by omega)
  · rw [d5 h]; have := h.b3; exact decide_eq_false (by omega)
  · rw [d6 h]; have := h.b3; exact decide_eq_false (by omega)
  · rw [d15 h]; have := h.b0; have := h.b1; have := h.b2; unfold valA; simp only [SE.den, arAdd, arMul, arRem, IntKind.wrap_u64, IntKind.wrap_i64, clI, ]; exact decide_eq_false (by simp only [Decidable.not_not]; (repeat' split) <;> omega)
  · rw [d8 h]; have := h.b3; exact decide_eq_false (by omega)
  · rw [d9 h]; have := h.b3; exact decide_eq_false (by simp only [clI]; (repeat' split) <;> omega)
  · rw [d10 h]; have := h.b3; exact decide_eq_false (by simp only [clI]; (repeat' split) <;> omega)
  · rw [d11 h]; have := h.b3; exact decide_eq_true (by omega)
  · rw [d24 h]; have := h.b3; exact decide_eq_true (by omega)
  · rw [d25 h]; have := h.b3; exact decide_eq_false (by omega)
theorem h41 (h : BdI E) (hL : E.i 0 = 0) (hC : E.i 1 < 0) (hN : 0 ≤ E.i 2 ∧ E.i 2 ≤ 4) (hQ : E.i 3 / 16 % 16 ≤ 1) (hR : 4 < E.i 3 % 16) : FaOk E ⟨fa41, rrI⟩ := by
  refine faOk_of h fun c b hm => ?_
  simp only [fa41, List.mem_cons, List.not_mem_nil, or_false, Prod.mk.injEq] at hm
  rcases hm with ⟨rfl, rfl⟩ | ⟨rfl, rfl⟩ | ⟨rfl, rfl⟩ | ⟨rfl, rfl⟩ | ⟨rfl, rfl⟩ | ⟨rfl, rfl⟩ | ⟨rfl, rfl⟩ | ⟨rfl, rfl⟩ | ⟨rfl, rfl⟩ | ⟨rfl, rfl⟩ | ⟨rfl, rfl⟩ | ⟨rfl, rfl⟩ | ⟨rfl, rfl⟩ | ⟨rfl, rfl⟩ | ⟨rfl, rfl⟩
  · rw [d0 h]; have := h.b3; exact decide_eq_false (by omega)
  · rw [d1 h]; have := h.b3; exact decide_eq_true (by omega)
  · rw [d2 h]; have := h.b3; exact decide_eq_false (by omega)
  · rw [d14 h]; have := h.b3; exact decide_eq_false (by omega)
  · rw [d3 h]; have := h.b3; exact decide_eq_false (by omega)
  · rw [d4 h]; have := h.b3; exact decide_eq_false (by omega)
  · rw [d5 h]; have := h.b3; exact decide_eq_false (by omega)
  · rw [d6 h]; have := h.b3; exact decide_eq_true (by omega)
  · rw [d15 h]; have := h.b0; have := h.b1; have := h.b2; unfold valA; simp only [SE.den, arAdd, arMul, arRem, IntKind.wrap_u64, IntKind.wrap_i64, clI, ]; exact decide_eq_false (by simp only [Decidable.not_not]; (repeat' split) <;> omega)
  · rw [d8 h]; have := h.b3; exact decide_eq_false (by omega)
  · rw [d9 h]; have := h.b3; exact decide_eq_false (by simp only [clI]; (repeat' split) <;> omega)
  · rw [d12 h]; have := h.b3; exact decide_eq_false (by simp only [clI]; (repeat' split) <;> omega)
  · rw [d11 h]; have := h.b3; exact decide_eq_true (by omega)
  · rw [d24 h]; have := h.b3; exact decide_eq_true (by omega)
  · rw [d25 h]; have := h.b3; exact decide_eq_false (by omega)
theorem h42 (h : BdI E) (hL : E.i 0 = 0) (hC : E.i 1 < 0) (hN : 0 ≤ E.i 2 ∧ E.i 2 ≤ 4) (hQ : 1 < E.i 3 / 16 % 16) (hR : E.i 3 % 16 ≤ 4) : FaOk E ⟨fa42, rrI⟩ := by
  refine faOk_of h fun c b hm => ?_
  simp only [fa42, List.mem_cons, List.not_mem_nil, or_false, Prod.mk.injEq] at hm
  rcases hm with ⟨rfl, rfl⟩ | ⟨rfl, rfl⟩ | ⟨rfl, rfl⟩ | ⟨rfl, rfl⟩ | ⟨rfl, rfl⟩ | ⟨rfl, rfl⟩ | ⟨rfl, rfl⟩ | ⟨rfl, rfl⟩ | ⟨rfl, rfl⟩ | ⟨rfl, rfl⟩ | ⟨rfl, rfl⟩ | ⟨rfl, rfl⟩ | ⟨rfl, rfl⟩ | ⟨rfl, rfl⟩ | ⟨rfl, rfl⟩
  · rw [d0 h]; have := h.b3; exact decide_eq_false (by omega)
  · rw [d1 h]; have := h.b3; exact decide_eq_true (by omega)
  · rw [d2 h]; have := h.b3; exact decide_eq_false (by omega)
  · rw [d14 h]; have := h.b3; exact decide_eq_false (by omega)
  · rw [d3 h]; have := h.b3; exact decide_eq_false (by omega)
  · rw [d4 h]; have := h.b3; exact decide_eq_true (by omega)
  · rw [d5 h]; have := h.b3; exact decide_eq_false (by omega)
  · rw [d6 h]; have := h.b3; exact decide_eq_false (by omega)
  · rw [d15 h]; have := h.b0; have := h.b1; have := h.b2; unfold valA; simp only [SE.den, arAdd, arMul, arRem, IntKind.wrap_u64, IntKind.wrap_i64, clI, ]; exact decide_eq_false (by simp only [Decidable.not_not]; (repeat' split) <;> omega)
  · rw [d8 h]; have := h.b3; exact decide_eq_false (by omega)
  · rw [d13 h]; have := h.b3; exact decide_eq_false (by simp only [clI]; (repeat' split) <;> omega)
  · rw [d10 h]; have := h.b3; exact decide_eq_false (by simp only [clI]; (repeat' split) <;> omega)
  · rw [d11 h]; have := h.b3; exact decide_eq_true (by omega)
  · rw [d24 h]; have := h.b3; exact decide_eq_true (by omega)
  · rw [d25 h]; have := h.b3; exact decide_eq_false (by omega)
theorem h43 (h : BdI E) (hL : E.i 0 = 0) (hC : E.i 1 < 0) (hN : 0 ≤ E.i 2 ∧ E.i 2 ≤ 4) (hQ : 1 < E.i 3 / 16 % 16) (hR : 4 < E.i 3 % 16) : FaOk E ⟨fa43, rrI⟩ := by
  refine faOk_of h fun c b hm => ?_
  simp only [fa43, List.mem_cons, List.not_mem_nil, or_false, Prod.mk.injEq] at hm
  rcases hm with ⟨rfl, rfl⟩ | ⟨rfl, rfl⟩ | ⟨rfl, rfl⟩ | ⟨rfl, rfl⟩ | ⟨rfl, rfl⟩ | ⟨rfl, rfl⟩ | ⟨rfl, rfl⟩ | ⟨rfl, rfl⟩ | ⟨rfl, rfl⟩ | ⟨rfl, rfl⟩ | ⟨rfl, rfl⟩ | ⟨rfl, rfl⟩ | ⟨rfl, rfl⟩ | ⟨rfl, rfl⟩ | ⟨rfl, rfl⟩
  · rw [d0 h]; have := h.b3; exact decide_eq_false (by omega)
  · rw [d1 h]; have := h.b3; exact decide_eq_true (by omega)
  · rw [d2 h]; have := h.b3; exact decide_eq_false (by omega)
  · rw [d14 h]; have := h.b3; exact decide_eq_false (by omega)
  · rw [d3 h]; have := h.b3; exact decide_eq_false (by omega)
  · rw [d4 h]; have := h.b3; exact decide_eq_true (by omega)
  · rw [d5 h]; have := h.b3; exact decide_eq_false (by omega)
  · rw [d6 h]; have := h.b3; exact decide_eq_true (by omega)
  · rw [d15 h]; have := h.b0; have := h.b1; have := h.b2; unfold valA; simp only [SE.den, arAdd, arMul, arRem, IntKind.wrap_u64, IntKind.wrap_i64, clI, ]; exact decide_eq_false (by simp only [Decidable.not_not]; (repeat' split) <;> omega)
  · rw [d8 h]; have := h.b3; exact decide_eq_false (by omega)
  · rw [d13 h]; have := h.b3; exact decide_eq_false (by simp only [clI]; (repeat' split) <;> omega)
  · rw [d12 h]; have := h.b3; exact decide_eq_false (by simp only [clI]; (repeat' split) <;> omega)
  · rw [d11 h]; have := h.b3; exact decide_eq_true (by omega)
  · rw [d24 h]; have := h.b3; exact decide_eq_true (by omega)
  · rw [d25 h]; have := h.b3; exact decide_eq_false (by omega)
theorem h44 (h : BdI E) (hL : E.i 0 = 0) (hC : E.i 1 < 0) (hN : 4 < E.i 2) (hQ : E.i 3 / 16 % 16 ≤ 1) (hR : E.i 3 % 16 ≤ 4) : FaOk E ⟨fa44, rrI⟩ := by
  refine faOk_of h fun c b hm => ?_
  simp only [fa44, List.mem_cons, List.not_mem_nil, or_false, Prod.mk.injEq] at hm
  rcases hm with ⟨rfl, rfl⟩ | ⟨rfl, rfl⟩ | ⟨rfl, rfl⟩ | ⟨rfl, rfl⟩ | ⟨rfl, rfl⟩ | ⟨rfl, rfl⟩ | ⟨rfl, rfl⟩ | ⟨rfl, rfl⟩ | ⟨rfl, rfl⟩ | ⟨rfl, rfl⟩ | ⟨rfl, rfl⟩ | ⟨rfl, rfl⟩ | ⟨rfl, rfl⟩ | ⟨rfl, rfl⟩ | ⟨rfl, rfl⟩
  · rw [d0 h]; have := h.b3; exact decide_eq_false (by omega)
  · rw [d1 h]; have := h.b3; exact decide_eq_true (by omega)
  · rw [d2 h]; have := h.b3; exact decide_eq_false (by omega)
  · rw [d14 h]; have := h.b3; exact decide_eq_true (by omega)
  · rw [d3 h]; have := h.b3; exact decide_eq_false (by omega)
  · rw [d4 h]; have := h.b3; exact decide_eq_false (by omega)
  · rw [d5 h]; have := h.b3; exact decide_eq_false (by omega)
  · rw [d6 h]; have := h.b3; exact decide_eq_false (by omega)
  · rw [d16 h]; have := h.b0; have := h.b1; have := h.b2; unfold valA; simp only [SE.den, arAdd, arMul, arRem, IntKind.wrap_u64, IntKind.wrap_i64, clI, ]; exact decide_eq_false (by simp only [Decidable.not_not]; (repeat' split) <;> omega)
  · rw [d8 h]; have := h.b3; exact decide_eq_false (by omega)
  · rw [d9 h]; have := h.b3; exact decide_eq_false (by simp only [clI]; (repeat' split) <;> omega)
  · rw [d10 h]; have := h.b3; exact decide_eq_false (by simp only [clI]; (repeat' split) <;> omega)
  · rw [d11 h]; have := h.b3; exact decide_eq_true (by omega)
  · rw [d24 h]; have := h.b3; exact decide_eq_true (by omega)
  · rw [d25 h]; have := h.b3; exact decide_eq_false (by omega)
theorem h45 (h : BdI E) (hL : E.i 0 = 0) (hC : E.i 1 < 0) (hN : 4 < E.i 2) (hQ : E.i 3 / 16 % 16 ≤ 1) (hR : 4 < E.i 3 % 16) : FaOk E ⟨fa45, rrI⟩ := by
  refine faOk_of h fun c b hm => ?_
  simp only [fa45, List.mem_cons, List.not_mem_nil, or_false, Prod.mk.injEq] at hm
  rcases hm with ⟨rfl, rfl⟩ | ⟨rfl, rfl⟩ | ⟨rfl, rfl⟩ | ⟨rfl, rfl⟩ | ⟨rfl, rfl⟩ | ⟨rfl, rfl⟩ | ⟨rfl, rfl⟩ | ⟨rfl, rfl⟩ | ⟨rfl, rfl⟩ | ⟨rfl, rfl⟩ | ⟨rfl, rfl⟩ | ⟨rfl, rfl⟩ | ⟨rfl, rfl⟩ | ⟨rfl, rfl⟩ | ⟨rfl, rfl⟩
  · rw [d0 h]; have := h.b3; exact decide_eq_false (by omega)
  · rw [d1 h]; have := h.b3; exact decide_eq_true (by omega)
  · rw [d2 h]; have := h.b3; exact decide_eq_false (by omega)
  · rw [d14 h]; have := h.b3; exact decide_eq_true (by omega)
  · rw [d3 h]; have := h.b3; exact decide_eq_false (by omega)
  · rw [d4 h]; have := h.b3; exact decide_eq_false (by omega)
  · rw [d5 h]; have := h.b3; exact decide_eq_false (by omega)
  · rw [d6 h]; have := h.b3; exact decide_eq_true (by omega)
  · rw [d16 h]; have := h.b0; have := h.b1; have := h.b2; unfold valA; simp only [SE.den, arAdd, arMul, arRem, IntKind.wrap_u64, IntKind.wrap_i64, clI, ]; exact decide_eq_false (by simp only [Decidable.not_not]; (repeat' split) <;> omega)
  · rw [d8 h]; have := h.b3; exact decide_eq_false (by omega)
  · rw [d9 h]; have := h.b3; exact decide_eq_false (by simp only [clI]; (repeat' split) <;> omega)
  · rw [d12 h]; have := h.b3; exact decide_eq_false (by simp only [clI]; (repeat' split) <;> omega)
  · rw [d11 h]; have := h.b3; exact decide_eq_true (by omega)
  · rw [d24 h]; have := h.b3; exact decide_eq_true (by omega)
  · rw [d25 h]; have := h.b3; exact decide_eq_false (by omega)
theorem h46 (h : BdI E) (hL : E.i 0 = 0) (hC : E.i 1 < 0) (hN : 4 < E.i 2) (hQ : 1 < E.i 3 / 16 % 16) (hR : E.i 3 % 16 ≤ 4) : FaOk E ⟨fa46, rrI⟩ := by
  refine faOk_of h fun c b hm => ?_
  simp only [fa46, List.mem_cons, List.not_mem_nil, or_false, Prod.mk.injEq] at hm
  rcases hm with ⟨rfl, rfl⟩ | ⟨rfl, rfl⟩ | ⟨rfl, rfl⟩ | ⟨rfl, rfl⟩ | ⟨rfl, rfl⟩ | ⟨rfl, rfl⟩ | ⟨rfl, rfl⟩ | ⟨rfl, rfl⟩ | ⟨rfl, rfl⟩ | ⟨rfl, rfl⟩ | ⟨rfl, rfl⟩ | ⟨rfl, rfl⟩ | ⟨rfl, rfl⟩ | ⟨rfl, rfl⟩ | ⟨rfl, rfl⟩
  · rw [d0 h]; have := h.b3; exact decide_eq_false (by omega)
  · rw [d1 h]; have := h.b3; exact decide_eq_true (by omega)
  · rw [d2 h]; have := h.b3; exact decide_eq_false (by omega)
  · rw [d14 h]; have := h.b3; exact decide_eq_true (by omega)
  · rw [d3 h]; have := h.b3; exact decide_eq_false (by omega)
  · rw [d4 h]; have := h.b3; exact decide_eq_true (by omega)
  · rw [d5 h]; have := h.b3; exact decide_eq_false (by omega)
  · rw [d6 h]; have := h.b3; exact decide_eq_false (by omega)
  · rw [d16 h]; have := h.b0; have := h.b1; have := h.b2; unfold valA; simp only [SE.den, arAdd, arMul, arRem, IntKind.wrap_u64, IntKind.wrap_i64, clI, ]; exact decide_eq_false (by simp only [Decidable.not_not]; (repeat' split) <;> omega)
  · rw [d8 h]; have := h.b3; exact decide_eq_false (by omega)
  · rw [d13 h]; have := h.b3; exact decide_eq_false (by simp only [clI]; (repeat' split) <;> omega)
  · rw [d10 h]; have := h.b3; exact decide_eq_false (by simp only [clI]; (repeat' split) <;> omega)
  · rw [d11 h]; have := h.b3; exact decide_eq_true (by omega)
  · rw [d24 h]; have := h.b3; exact decide_eq_true (by omega)
  · rw [d25 h]; have := h.b3; exact decide_eq_false (by omega)
theorem h47 (h : BdI E) (hL : E.i 0 = 0) (hC : E.i 1 < 0) (hN : 4 < E.i 2) (hQ : 1 < E.i 3 / 16 % 16) (hR : 4 < E.i 3 % 16) : FaOk E ⟨fa47, rrI⟩ := by
  refine faOk_of h fun c b hm => ?_
  simp only [fa47, List.mem_cons, List.not_mem_nil, or_false, Prod.mk.injEq] at hm
  rcases hm with ⟨rfl, rfl⟩ | ⟨rfl, rfl⟩ | ⟨rfl, rfl⟩ | ⟨rfl, rfl⟩ | ⟨rfl, rfl⟩ | ⟨rfl, rfl⟩ | ⟨rfl, rfl⟩ | ⟨rfl, rfl⟩ | ⟨rfl, rfl⟩ | ⟨rfl, rfl⟩ | ⟨rfl, rfl⟩ | ⟨rfl, rfl⟩ | ⟨rfl, rfl⟩ | ⟨rfl, rfl⟩ | ⟨rfl, rfl⟩
  · rw [d0 h]; have := h.b3; exact decide_eq_false (by omega)
  · rw [d1 h]; have := h.b3; exact decide_eq_true (by omega)
  · rw [d2 h]; have := h.b3; exact decide_eq_false (by omega)
  · rw [d14 h]; have := h.b3; exact decide_eq_true (by omega)
  · rw [d3 h]; have := h.b3; exact decide_eq_false (by omega)
  · rw [d4 h]; have := h.b3; exact decide_eq_true (by omega)
  · rw [d5 h]; have := h.b3; exact decide_eq_false (by omega)
  · rw [d6 h]; have := h.b3; exact decide_eq_true (by omega)
  · rw [d16 h]; have := h.b0; have := h.b1; have := h.b2; unfold valA; simp only [SE.den, arAdd, arMul, arRem, IntKind.wrap_u64, IntKind.wrap_i64, clI, ]; exact decide_eq_false (by simp only [Decidable.not_not]; (repeat' split) <;> omega)
  · rw [d8 h]; have := h.b3; exact decide_eq_false (by omega)
  · rw [d13 h]; have := h.b3; exact decide_eq_false (by simp only [clI]; (repeat' split) <;> omega)
  · rw [d12 h]; have := h.b3; exact decide_eq_false (by simp only [clI]; (repeat' split) <;> omega)
  · rw [d11 h]; have := h.b3; exact decide_eq_true (by omega)
  · rw [d24 h]; have := h.b3; exact decide_eq_true (by omega)
  · rw [d25 h]; have := h.b3; exact decide_eq_false (by omega)
theorem h48 (h : BdI E) (hL : E.i 0 = 0) (hC : 0 ≤ E.i 1 ∧ E.i 1 ≤ 1) (hN : E.i 2 < 0) (hQ : E.i 3 / 16 % 16 ≤ 1) (hR : E.i 3 % 16 ≤ 4) : FaOk E ⟨fa48, rrI⟩ := by
  refine faOk_of h fun c b hm => ?_
  simp only [fa48, List.mem_cons, List.not_mem_nil, or_false, Prod.mk.injEq] at hm
  rcases hm with ⟨rfl, rfl⟩ | ⟨rfl, rfl⟩ | ⟨rfl, rfl⟩ | ⟨rfl, rfl⟩ | ⟨rfl, rfl⟩ | ⟨rfl, rfl⟩ | ⟨rfl, rfl⟩ | ⟨rfl, rfl⟩ | ⟨rfl, rfl⟩ | ⟨rfl, rfl⟩ | ⟨rfl, rfl⟩ | ⟨rfl, rfl⟩ | ⟨rfl, rfl⟩ | ⟨rfl, rfl⟩ | ⟨rfl, rfl⟩ | ⟨rfl, rfl⟩ | ⟨rfl, rfl⟩
  · rw [d0 h]; have := h.b3; exact decide_eq_false (by omega)
  · rw [d1 h]; have := h.b3; exact decide_eq_false (by omega)
  · rw [d17 h]; have := h.b3; exact decide_eq_false (by omega)
  · rw [d2 h]; have := h.b3; exact decide_eq_true (by omega)
  · rw [d3 h]; have := h.b3; exact decide_eq_false (by omega)
  · rw [d4 h]; have := h.b3; exact decide_eq_false (by omega)
  · rw [d5 h]; have := h.b3; exact decide_eq_false (by omega)
  · rw [d6 h]; have := h.b3; exact decide_eq_false (by omega)
  · rw [d18 h]; have := h.b0; have := h.b1; have := h.b2; unfold valA; simp only [SE.den, arAdd, arMul, arRem, IntKind.wrap_u64, IntKind.wrap_i64, clI, ]; exact decide_eq_false (by simp only [Decidable.not_not]; (repeat' split) <;> omega)
  · rw [d8 h]; have := h.b3; exact decide_eq_false (by omega)
  · rw [d9 h]; have := h.b3; exact decide_eq_false (by simp only [clI]; (repeat' split) <;> omega)
  · rw [d10 h]; have := h.b3; exact decide_eq_false (by simp only [clI]; (repeat' split) <;> omega)
  · rw [d11 h]; have := h.b3; exact decide_eq_true (by omega)
  · rw [d24 h]; have := h.b3; exact decide_eq_true (by omega)
  · rw [d25 h]; have := h.b3; exact decide_eq_true (by omega)
  · rw [d26 h]; have := h.b3; exact decide_eq_true (by omega)
  · rw [d27 h]; have := h.b3; exact decide_eq_false (by omega)
theorem h49 (h : BdI E) (hL : E.i 0 = 0) (hC : 0 ≤ E.i 1 ∧ E.i 1 ≤ 1) (hN : E.i 2 < 0) (hQ : E.i 3 / 16 % 16 ≤ 1) (hR : 4 < E.i 3 % 16) : FaOk E ⟨fa49, rrI⟩ := by
  refine faOk_of h fun c b hm => ?_
  simp only [fa49, List.mem_cons, List.not_mem_nil, or_false, Prod.mk.injEq] at hm
  rcases hm with ⟨rfl, rfl⟩ | ⟨rfl, rfl⟩ | ⟨rfl, rfl⟩ | ⟨rfl, rfl⟩ | ⟨rfl, rfl⟩ | ⟨rfl, rfl⟩ | ⟨rfl, rfl⟩ | ⟨rfl, rfl⟩ | ⟨rfl, rfl⟩ | ⟨rfl, rfl⟩ | ⟨rfl, rfl⟩ | ⟨rfl, rfl⟩ | ⟨rfl, rfl⟩ | ⟨rfl, rfl⟩ | ⟨rfl, rfl⟩ | ⟨rfl, rfl⟩ | ⟨rfl, rfl⟩
  · rw [d0 h]; have := h.b3; exact decide_eq_false (by omega)
  · rw [d1 h]; have := h.b3; exact decide_eq_false (by omega)
  · rw [d17 h]; have := h.b3; exact decide_eq_false (by omega)
  · rw [d2 h]; have := h.b3; exact decide_eq_true (by omega)
  · rw [d3 h]; have := h.b3; exact decide_eq_false (by omega)
  · rw [d4 h]; have := h.b3; exact decide_eq_false (by omega)
  · rw [d5 h]; have := h.b3; exact decide_eq_false (by omega)
  · rw [d6 h]; have := h.b3; exact decide_eq_true (by omega)
  · rw [d18 h]; have := h.b0; have := h.b1; have := h.b2; unfold valA; simp only [SE.den, arAdd, arMul, arRem, IntKind.wrap_u64, IntKind.wrap_i64, clI, ]; exact decide_eq_false (by simp only [Decidable.not_not]; (repeat' split) <;> omega)
  · rw [d8 h]; have := h.b3; exact decide_eq_false (by omega)
  · rw [d9 h]; have := h.b3; exact decide_eq_false (by simp only [clI]; (repeat' split) <;> omega)
  · rw [d12 h]; have := h.b3; exact decide_eq_false (by simp only [clI]; (repeat' split) <;> omega)
  · rw [d11 h]; have := h.b3; exact decide_eq_true (by omega)
  · rw [d24 h]; have := h.b3; exact decide_eq_true (by omega)
  · rw [d25 h]; have := h.b3; exact decide_eq_true (by omega)
  · rw [d26 h]; have := h.b3; exact decide_eq_true (by omega)
  · rw [d27 h]; have := h.b3; exact decide_eq_false (by omega)
theorem h50 (h : BdI E) (hL : E.i 0 = 0) (hC : 0 ≤ E.i 1 ∧ E.i 1 ≤ 1) (hN : E.i 2 < 0) (hQ : 1 < E.i 3 / 16 % 16) (hR : E.i 3 % 16 ≤ 4) : FaOk E ⟨fa50, rrI⟩ := by
  refine faOk_of h fun c b hm => ?_
  simp only [fa50, List.mem_cons, List.not_mem_nil, or_false, Prod.mk.injEq] at hm
  rcases hm with ⟨rfl, rfl⟩ | ⟨rfl, rfl⟩ | ⟨rfl, rfl⟩ | ⟨rfl, rfl⟩ | ⟨rfl, rfl⟩ | ⟨rfl, rfl⟩ | ⟨rfl, rfl⟩ | ⟨rfl, rfl⟩ | ⟨rfl, rfl⟩ | ⟨rfl, rfl⟩ | ⟨rfl, rfl⟩ | ⟨rfl, rfl⟩ | ⟨rfl, rfl⟩ | ⟨rfl, rfl⟩ | ⟨rfl, rfl⟩ | ⟨rfl, rfl⟩ | ⟨rfl, rfl⟩
  · rw [d0 h]; have := h.b3; exact decide_eq_false (by omega)
  · rw [d1 h]; have := h.b3; exact decide_eq_false (by omega)
  · rw [d17 h]; have := h.b3; exact decide_eq_false (by omega)
  · rw [d2 h]; have := h.b3; exact decide_eq_true (by omega)
  · rw [d3 h]; have := h.b3; exact decide_eq_false (by omega)
  · rw [d4 h]; have := h.b3; exact decide_eq_true (by omega)
  · rw [d5 h]; have := h.b3; exact decide_eq_false (by omega)
  · rw [d6 h]; have := h.b3; exact decide_eq_false (by omega)
  · rw [d18 h]; have := h.b0; have := h.b1; have := h.b2; unfold valA; simp only [SE.den, arAdd, arMul, arRem, IntKind.wrap_u64, IntKind.wrap_i64, clI, ]; exact decide_eq_false (by simp only [Decidable.not_not]; (repeat' split) <;> omega)
  · rw [d8 h]; have := h.b3; exact decide_eq_false (by omega)
  · rw [d13 h]; have := h.b3; exact decide_eq_false (by simp only [clI]; (repeat' split) <;> omega)
  · rw [d10 h]; have := h.b3; exact decide_eq_false (by simp only [clI]; (repeat' split) <;> omega)
  · rw [d11 h]; have := h.b3; exact decide_eq_true (by omega)
  · rw [d24 h]; have := h.b3; exact decide_eq_true (by omega)
  · rw [d25 h]; have := h.b3; exact decide_eq_true (by omega)
  · rw [d26 h]; have := h.b3; exact decide_eq_true (by omega)
  · rw [d27 h]; have := h.b3; exact decide_eq_false (by omega)
theorem h51 (h : BdI E) (hL : E.i 0 = 0) (hC : 0 ≤ E.i 1 ∧ E.i 1 ≤ 1) (hN : E.i 2 < 0) (hQ : 1 < E.i 3 / 16 % 16) (hR : 4 < E.i 3 % 16) : FaOk E ⟨fa51, rrI⟩ := by
  refine faOk_of h fun c b hm => ?_
  simp only [fa51, List.mem_cons, List.not_mem_nil, or_false, Prod.mk.injEq] at hm
  rcases hm with ⟨rfl, rfl⟩ | ⟨rfl, rfl⟩ | ⟨rfl, rfl⟩ | ⟨rfl, rfl⟩ | ⟨rfl, rfl⟩ | ⟨rfl, rfl⟩ | ⟨rfl, rfl⟩ | ⟨rfl, rfl⟩ | ⟨rfl, rfl⟩ | ⟨rfl, rfl⟩ | ⟨rfl, rfl⟩ | ⟨rfl, rfl⟩ | ⟨rfl, rfl⟩ | ⟨rfl, rfl⟩ | ⟨rfl, rfl⟩ | ⟨rfl, rfl⟩ | ⟨rfl, rfl⟩
  · rw [d0 h]; have := h.b3; exact decide_eq_false (by omega)
  · rw [d1 h]; have := h.b3; exact decide_eq_false (by omega)
  · rw [d17 h]; have := h.b3; exact decide_eq_false (by omega)
  · rw [d2 h]; have := h.b3; exact decide_eq_true (by omega)
  · rw [d3 h]; have := h.b3; exact decide_eq_false (by omega)
  · rw [d4 h]; have := h.b3; exact decide_eq_true (by omega)
  · rw [d5 h]; have := h.b3; exact decide_eq_false (by omega)
  · rw [d6 h]; have := h.b3; exact decide_eq_true (by omega)
  · rw [d18 h]; have := h.b0; have := h.b1; have := h.b2; unfold valA; simp only [SE.den, arAdd, arMul, arRem, IntKind.wrap_u64, IntKind.wrap_i64, clI, ]; exact decide_eq_false (by simp only [Decidable.not_not]; (repeat' split) <;> omega)
  · rw [d8 h]; have := h.b3; exact decide_eq_false (by omega)
  · rw [d13 h]; have := h.b3; exact decide_eq_false (by simp only [clI]; (repeat' split) <;> omega)
  · rw [d12 h]; have := h.b3; exact decide_eq_false (by simp only [clI]; (repeat' split) <;> omega)
  · rw [d11 h]; have := h.b3; exact decide_eq_true (by omega)
  · rw [d24 h]; have := h.b3; exact decide_eq_true (by omega)
  · rw [d25 h]; have := h.b3; exact decide_eq_true (by omega)
  · rw [d26 h]; have := h.b3; exact decide_eq_true (by omega)
  · rw [d27 h]; have := h.b3; exact decide_eq_false (by omega)
theorem h52 (h : BdI E) (hL : E.i 0 = 0) (hC : 0 ≤ E.i 1 ∧ E.i 1 ≤ 1) (hN : 0 ≤ E.i 2 ∧ E.i 2 ≤ 4) (hQ : E.i 3 / 16 % 16 ≤ 1) (hR : E.i 3 % 16 ≤ 4) : FaOk E ⟨fa52, rrI⟩ := by
  refine faOk_of h fun c b hm => ?_
  simp only [fa52, List.mem_cons, List.not_mem_nil, or_false, Prod.mk.injEq] at hm
  rcases hm with ⟨rfl, rfl⟩ | ⟨rfl, rfl⟩ | ⟨rfl, rfl⟩ | ⟨rfl, rfl⟩ | ⟨rfl, rfl⟩ | ⟨rfl, rfl⟩ | ⟨rfl, rfl⟩ | ⟨rfl, rfl⟩ | ⟨rfl, rfl⟩ | ⟨rfl, rfl⟩ | ⟨rfl, rfl⟩ | ⟨rfl, rfl⟩ | ⟨rfl, rfl⟩ | ⟨rfl, rfl⟩ | ⟨rfl, rfl⟩ | ⟨rfl, rfl⟩ | ⟨rfl, rfl⟩ | ⟨rfl, rfl⟩ | ⟨rfl, rfl⟩ | ⟨rfl, rfl⟩ | ⟨rfl, rfl⟩ | ⟨rfl, rfl⟩
  · rw [d0 h]; have := h.b3; exact decide_eq_false (by omega)
  · rw [d1 h]; have := h.b3; exact decide_eq_false (by omega)
  · rw [d17 h]; have := h.b3; exact decide_eq_false (by omega)
  · rw [d2 h]; have := h.b3; exact decide_eq_false (by omega)
  · rw [d14 h]; have := h.b3; exact decide_eq_false (by omega)
  · rw [d3 h]; have := h.b3; exact decide_eq_false (by omega)
  · rw [d4 h]; have := h.b3; exact decide_eq_false (by omega)
  · rw [d5 h]; have := h.b3; exact decide_eq_false (by omega)
  · rw [d6 h]; have := h.b3; exact decide_eq_false (by omega)
  · rw [d19 h]; have := h.b0; have := h.b1; have := h.b2; unfold valA; simp only [SE.den, arAdd, arMul, arRem, IntKind.wrap_u64, IntKind.wrap_i64, clI, ]; exact decide_eq_false (by simp only [Decidable.not_not]; (repeat' split) <;> omega)
  · rw [d8 h]; have := h.b3; exact decide_eq_false (by omega)
  · rw [d9 h]; have := h.b3; exact decide_eq_false (by simp only [clI]; (repeat' split) <;> omega)
  · rw [d10 h]; have := h.b3; exact decide_eq_false (by simp only [clI]; (repeat' split) <;> omega)
  · rw [d11 h]; have := h.b3; exact decide_eq_true (by omega)
  · rw [d24 h]; have := h.b3; exact decide_eq_true (by omega)
  · rw [d25 h]; have := h.b3; exact decide_eq_true (by omega)
  · rw [d26 h]; have := h.b3; exact decide_eq_true (by omega)
  · rw [d27 h]; have := h.b3; exact decide_eq_true (by omega)
  · rw [d28 h]; have := h.b3; exact decide_eq_true (by omega)
  · rw [d29 h]; have := h.b3; exact decide_eq_true (by unfold valA clI at *; (repeat' split) <;> omega)
  · rw [d30 h]; have := h.b3; exact decide_eq_true (by unfold valA clI at *; (repeat' split) <;> omega)
  · rw [d31 h]; have := h.b3; exact decide_eq_true (by unfold valA clI at *; (repeat' split) <;> omega)
theorem h53 (h : BdI E) (hL : E.i 0 = 0) (hC : 0 ≤ E.i 1 ∧ E.i 1 ≤ 1) (hN : 0 ≤ E.i 2 ∧ E.i 2 ≤ 4) (hQ : E.i 3 / 16 % 16 ≤ 1) (hR : 4 < E.i 3 % 16) : FaOk E ⟨fa53, rrI⟩ := by
  refine faOk_of h fun c b hm => ?_
  simp only [fa53, List.mem_cons, List.not_mem_nil, or_false, Prod.mk.injEq] at hm
  rcases hm with ⟨rfl, rfl⟩ | ⟨rfl, rfl⟩ | ⟨rfl, rfl⟩ | ⟨rfl, rfl⟩ | ⟨rfl, rfl⟩ | ⟨rfl, rfl⟩ | ⟨rfl, rfl⟩ | ⟨rfl, rfl⟩ | ⟨rfl, rfl⟩ | ⟨rfl, rfl⟩ | ⟨rfl, rfl⟩ | ⟨rfl, rfl⟩ | ⟨rfl, rfl⟩ | ⟨rfl, rfl⟩ | ⟨rfl, rfl⟩ | ⟨rfl, rfl⟩ | ⟨rfl, rfl⟩ | ⟨rfl, rfl⟩ | ⟨rfl, rfl⟩ | ⟨rfl, rfl⟩ | ⟨rfl, rfl⟩ | ⟨rfl, rfl⟩
  · rw [d0 h]; have := h.b3; exact decide_eq_false (by omega)
  · rw [d1 h]; have := h.b3; exact decide_eq_false (by omega)
  · rw [d17 h]; have := h.b3; exact decide_eq_false (by omega)
  · rw [d2 h]; have := h.b3; exact decide_eq_false (by omega)
  · rw [d14 h]; have := h.b3; exact decide_eq_false (by omega)
  · rw [d3 h]; have := h.b3; exact decide_eq_false (by omega)
  · rw [d4 h]; have := h.b3; exact decide_eq_false (by omega)
  · rw [d5 h]; have := h.b3; exact decide_eq_false (by omega)
  · rw [d6 h]; have := h.b3; exact decide_eq_true (by omega)
  · rw [d19 h]; have := h.b0; have := h.b1; have := h.b2; unfold valA; simp only [SE.den, arAdd, arMul, arRem, IntKind.wrap_u64, IntKind.wrap_i64, clI, ]; exact decide_eq_false (by simp only [Decidable.not_not]; (repeat' split) <;> omega)
  · rw [d8 h]; have := h.b3; exact decide_eq_false (by omega)
  · rw [d9 h]; have := h.b3; exact decide_eq_false (by simp only [clI]; (repeat' split) <;> omega)
  · rw [d12 h]; have := h.b3; exact decide_eq_false (by simp only [clI]; (repeat' split) <;> omega)
  · rw [d11 h]; have := h.b3; exact decide_eq_true (by omega)
  · rw [d24 h]; have := h.b3; exact decide_eq_true (by omega)
  · rw [d25 h]; have := h.b3; exact decide_eq_true (by omega)
  · rw [d26 h]; have := h.b3; exact decide_eq_true (by omega)
  · rw [d27 h]; have := h.b3; exact decide_eq_true (by omega)
  · rw [d28 h]; have := h.b3; exact decide_eq_true (by omega)
  · rw [d29 h]; have := h.b3; exact decide_eq_true (by unfold valA clI at *; (repeat' split) <;> omega)
  · rw [d30 h]; have := h.b3; exact decide_eq_true (by unfold valA clI at *; (repeat' split) <;> omega)
  · rw [d31 h]; have := h.b3; exact decide_eq_true (by unfold valA clI at *; (repeat' split) <;> omega)
theorem h54 (h : BdI E) (hL : E.i 0 = 0) (hC : 0 ≤ E.i 1 ∧ E.i 1 ≤ 1) (hN : 0 ≤ E.i 2 ∧ E.i 2 ≤ 4) (hQ : 1 < E.i 3 / 16 % 16) (hR : E.i 3 % 16 ≤ 4) : FaOk E ⟨fa54, rrI⟩ := by
  refine faOk_of h fun c b hm => ?_
  simp only [fa54, List.mem_cons, List.not_mem_nil, or_false, Prod.mk.injEq] at hm
  rcases hm with ⟨rfl, rfl⟩ | ⟨rfl, rfl⟩ | ⟨rfl, rfl⟩ | ⟨rfl, rfl⟩ | ⟨rfl, rfl⟩ | ⟨rfl, rfl⟩ | ⟨rfl, rfl⟩ | ⟨rfl, rfl⟩ | ⟨rfl, rfl⟩ | ⟨rfl, rfl⟩ | ⟨rfl, rfl⟩ | ⟨rfl, rfl⟩ | ⟨rfl, rfl⟩ | ⟨rfl, rfl⟩ | ⟨rfl, rfl⟩ | ⟨rfl, rfl⟩ | ⟨rfl, rfl⟩ | ⟨rfl, rfl⟩ | ⟨rfl, rfl⟩ | ⟨rfl, rfl⟩ | ⟨rfl, rfl⟩ | ⟨rfl, rfl⟩
  · rw [d0 h]; have := h.b3; exact decide_eq_false (by omega)
  · rw [d1 h]; have := h.b3; exact decide_eq_false (by omega)
  · rw [d17 h]; have := h.b3; exact decide_eq_false (by omega)
  · rw [d2 h]; have := h.b3; exact decide_eq_false (by omega)
  · rw [d14 h]; have := h.b3; exact decide_eq_false (by omega)
  · rw [d3 h]; have := h.b3; exact decide_eq_false (by omega)
  · rw [d4 h]; have := h.b3; exact decide_eq_true (by omega)
  · rw [d5 h]; have := h.b3; exact decide_eq_false (by omega)
  · rw [d6 h]; have := h.b3; exact decide_eq_false (by omega)
  · rw [d19 h]; have := h.b0; have := h.b1; have := h.b2; unfold valA; simp only [SE.den, arAdd, arMul, arRem, IntKind.wrap_u64, IntKind.wrap_i64, clI, ]; exact decide_eq_false (by simp only [Decidable.not_not]; (repeat' split) <;> omega)
  · rw [d8 h]; have := h.b3; exact decide_eq_false (by omega)
  · rw [d13 h]; have := h.b3; exact decide_eq_false (by simp only [clI]; (repeat' split) <;> omega)
  · rw [d10 h]; have := h.b3; exact decide_eq_false (by simp only [clI]; (repeat' split) <;> omega)
  · rw [d11 h]; have := h.b3; exact decide_eq_true (by omega)
  · rw [d24 h]; have := h.b3; exact decide_eq_true (by omega)
  · rw [d25 h]; have := h.b3; exact decide_eq_true (by omega)
  · rw [d26 h]; have := h.b3; exact decide_eq_true (by omega)
  · rw [d27 h]; have := h.b3; exact decide_eq_true (by omega)
  · rw [d28 h]; have := h.b3; exact decide_eq_true (by omega)
  · rw [d29 h]; have := h.b3; exact decide_eq_true (by unfold valA clI at *; (repeat' split) <;> omega)
  · rw [d30 h]; have := h.b3; exact decide_eq_true (by unfold valA clI at *; (repeat' split) <;> omega)
  · rw [d31 h]; have := h.b3; exact decide_eq_true (by unfold valA clI at *; (repeat' split) <;> omega)
theorem h55 (h : BdI E) (hL : E.i 0 = 0) (hC : 0 ≤ E.i 1 ∧ E.i 1 ≤ 1) (hN : 0 ≤ E.i 2 ∧ E.i 2 ≤ 4) (hQ : 1 < E.i 3 / 16 % 16) (hR : 4 < E.i 3 % 16) : FaOk E ⟨fa55, rrI⟩ := by
  refine faOk_of h fun c b hm => ?_
  simp only [fa55, List.mem_cons, List.not_mem_nil, or_false, Prod.mk.injEq] at hm
  rcases hm with ⟨rfl, rfl⟩ | ⟨rfl, rfl⟩ | ⟨rfl, rfl⟩ | ⟨rfl, rfl⟩ | ⟨rfl, rfl⟩ | ⟨rfl, rfl⟩ | ⟨rfl, rfl⟩ | ⟨rfl, rfl⟩ | ⟨rfl, rfl⟩ | ⟨rfl, rfl⟩ | ⟨rfl, rfl⟩ | ⟨rfl, rfl⟩ | ⟨rfl, rfl⟩ | ⟨rfl, rfl⟩ | ⟨rfl, rfl⟩ | ⟨rfl, rfl⟩ | ⟨rfl, rfl⟩ | ⟨rfl, rfl⟩ | ⟨rfl, rfl⟩ | ⟨rfl, rfl⟩ | ⟨rfl, rfl⟩ | ⟨rfl, rfl⟩
  · rw [d0 h]; have := h.b3; exact decide_eq_false (by omega)
  · rw [d1 h]; have := h.b3; exact decide_eq_false (by omega)
  · rw [d17 h]; have := h.b3; exact decide_eq_false (by omega)
  · rw [d2 h]; have := h.b3; exact decide_eq_false (by omega)
  · rw [d14 h]; have := h.b3; exact decide_eq_false (by omega)
  · rw [d3 h]; have := h.b3; exact decide_eq_false (by omega)
  · rw [d4 h]; have := h.b3; exact decide_eq_true (by omega)
  · rw [d5 h]; have := h.b3; exact decide_eq_false (by omega)
  · rw [d6 h]; have := h.b3; exact decide_eq_true (by omega)
  · rw [d19 h]; have := h.b0; have := h.b1; have := h.b2; unfold valA; simp only [SE.den, arAdd, arMul, arRem, IntKind.wrap_u64, IntKind.wrap_i64, clI, ]; exact decide_eq_false (by simp only [Decidable.not_not]; (repeat' split) <;> omega)
  · rw [d8 h]; have := h.b3; exact decide_eq_false (by omega)
  · rw [d13 h]; have := h.b3; exact decide_eq_false (by simp only [clI]; (repeat' split) <;> omega)
  · rw [d12 h]; have := h.b3; exact decide_eq_false (by simp only [clI]; (repeat' split) <;> omega)
  · rw [d11 h]; have := h.b3; exact decide_eq_true (by omega)
  · rw [d24 h]; have := h.b3; exact decide_eq_true (by omega)
  · rw [d25 h]; have := h.b3; exact decide_eq_true (by omega)
  · rw [d26 h]; have := h.b3; exact decide_eq_true (by omega)
  · rw [d27 h]; have := h.b3; exact decide_eq_true (by omega)
  · rw [d28 h]; have := h.b3; exact decide_eq_true (by omega)
  · rw [d29 h]; have := h.b3; exact decide_eq_true (by unfold valA clI at *; (repeat' split) <;> omega)
  · rw [d30 h]; have := h.b3; exact decide_eq_true (by unfold valA clI at *; (repeat' split) <;> omega)
  · rw [d31 h]; have := h.b3; exact decide_eq_true (by unfold valA clI at *; (repeat' split) <;> omega)
theorem h56 (h : BdI E) (hL : E.i 0 = 0) (hC : 0 ≤ E.i 1 ∧ E.i 1 ≤ 1) (hN : 4 < E.i 2) (hQ : E.i 3 / 16 % 16 ≤ 1) (hR : E.i 3 % 16 ≤ 4) : FaOk E ⟨fa56, rrI⟩ := by
  refine faOk_of h fun c b hm => ?_
  simp only [fa56, List.mem_cons, List.not_mem_nil, or_false, Prod.mk.injEq] at hm
  rcases hm with ⟨rfl, rfl⟩ | ⟨rfl, rfl⟩ | ⟨rfl, rfl⟩ | ⟨rfl, rfl⟩ | ⟨rfl, rfl⟩ | ⟨rfl, rfl⟩ | ⟨rfl, rfl⟩ | ⟨rfl, rfl⟩ | ⟨rfl, rfl⟩ | ⟨rfl, rfl⟩ | ⟨rfl, rfl⟩ | ⟨rfl, rfl⟩ | ⟨rfl, rfl⟩ | ⟨rfl, rfl⟩ | ⟨rfl, rfl⟩ | ⟨rfl, rfl⟩ | ⟨rfl, rfl⟩ | ⟨rfl, rfl⟩ | ⟨rfl, rfl⟩
  · rw [d0 h]; have := h.b3; exact decide_eq_false (by omega)
  · rw [d1 h]; have := h.b3; exact decide_eq_false (by omega)
  · rw [d17 h]; have := h.b3; exact decide_eq_false (by omega)
  · rw [d2 h]; have := h.b3; exact decide_eq_false (by omega)
  · rw [d14 h]; have := h.b3; exact decide_eq_true (by omega)
  · rw [d3 h]; have := h.b3; exact decide_eq_false (by omega)
  · rw [d4 h]; have := h.b3; exact decide_eq_false (by omega)
  · rw [d5 h]; have := h.b3; exact decide_eq_false (by omega)
  · rw [d6 h]; have := h.b3; exact decide_eq_false (by omega)
  · rw [d20 h]; have := h.b0; have := h.b1; have := h.b2; unfold valA; simp only [SE.den, arAdd, arMul, arRem, IntKind.wrap_u64, IntKind.wrap_i64, clI, ]; exact decide_eq_false (by simp only [Decidable.not_not]; (repeat' split) <;> omega)
  · rw [d8 h]; have := h.b3; exact decide_eq_false (by omega)
  · rw [d9 h]; have := h.b3; exact decide_eq_false (by simp only [clI]; (repeat' split) <;> omega)
  · rw [d10 h]; have := h.b3; exact decide_eq_false (by simp only [clI]; (repeat' split) <;> omega)
  · rw [d11 h]; have := h.b3; exact decide_eq_true (by omega)
  · rw [d24 h]; have := h.b3; exact decide_eq_true (by omega)
  · rw [d25 h]; have := h.b3; exact decide_eq_true (by omega)
  · rw [d26 h]; have := h.b3; exact decide_eq_true (by omega)
  · rw [d27 h]; have := h.b3; exact decide_eq_true (by omega)
  · rw [d28 h]; have := h.b3; exact decide_eq_false (by omega)
theorem h57 (h : BdI E) (hL : E.i 0 = 0) (hC : 0 ≤ E.i 1 ∧ E.i 1 ≤ 1) (hN : 4 < E.i 2) (hQ : E.i 3 / 16 % 16 ≤ 1) (hR : 4 < E.i 3 % 16) : FaOk E ⟨fa57, rrI⟩ := by
  refine faOk_of h fun c b hm => ?_
  simp only [fa57, List.mem_cons, List.not_mem_nil, or_false, Prod.mk.injEq] at hm
  rcases hm with ⟨rfl, rfl⟩ | ⟨rfl, rfl⟩ | ⟨rfl, rfl⟩ | ⟨rfl, rfl⟩ | ⟨rfl, rfl⟩ | ⟨rfl, rfl⟩ | ⟨rfl, rfl⟩ | ⟨rfl, rfl⟩ | ⟨rfl, rfl⟩ | ⟨rfl, rfl⟩ | ⟨rfl, rfl⟩ | ⟨rfl, rfl⟩ | ⟨rfl, rfl⟩ | ⟨rfl, rfl⟩ | ⟨rfl, rfl⟩ | ⟨rfl, rfl⟩ | ⟨rfl, rfl⟩ | ⟨rfl, rfl⟩ | ⟨rfl, rfl⟩
  · rw [d0 h]; have := h.b3; exact decide_eq_false (by omega)
  · rw [d1 h]; have := h.b3; exact decide_eq_false (by omega)
  · rw [d17 h]; have := h.b3; exact decide_eq_false (by omega)
  · rw [d2 h]; have := h.b3; exact decide_eq_false (by omega)
  · rw [d14 h]; have := h.b3; exact decide_eq_true (by omega)
  · rw [d3 h]; have := h.b3; exact decide_eq_false (by omega)
  · rw [d4 h]; have := h.b3; exact decide_eq_false (by omega)
  · rw [d5 h]; have := h.b3; exact decide_eq_false (by omega)
  · rw [d6 h]; have := h.b3; exact decide_eq_true (by omega)
  · rw [d20 h]; have := h.b0; have := h.b1; have := h.b2; unfold valA; simp only [SE.den, arAdd, arMul, arRem, IntKind.wrap_u64, IntKind.wrap_i64, clI, ]; exact decide_eq_false (by simp only [Decidable.not_not]; (repeat' split) <;> omega)
  · rw [d8 h]; have := h.b3; exact decide_eq_false (by omega)
  · rw [d9 h]; have := h.b3; exact decide_eq_false (by simp only [clI]; (repeat' split) <;> omega)
  · rw [d12 h]; have := h.b3; exact decide_eq_false (by simp only [clI]; (repeat' split) <;> omega)
  · rw [d11 h]; have := h.b3; exact decide_eq_true (by omega)
  · rw [d24 h]; have := h.b3; exact decide_eq_true (by omega)
  · rw [d25 h]; have := h.b3; exact decide_eq_true (by omega)
  · rw [d26 h]; have := h.b3; exact decide_eq_true (by omega)
  · rw [d27 h]; have := h.b3; exact decide_eq_true (by omega)
  · rw [d28 h]; have := h.b3; exact decide_eq_false (by omega)
theorem h58 (h : BdI E) (hL : E.i 0 = 0) (hC : 0 ≤ E.i 1 ∧ E.i 1 ≤ 1) (hN : 4 < E.i 2) (hQ : 1 < E.i 3 / 16 % 16) (hR : E.i 3 % 16 ≤ 4) : FaOk E ⟨fa58, rrI⟩ := by
  refine faOk_of h fun c b hm => ?_
  simp only [fa58, List.mem_cons, List.not_mem_nil, or_false, Prod.mk.injEq] at hm
  rcases hm with ⟨rfl, rfl⟩ | ⟨rfl, rfl⟩ | ⟨rfl, rfl⟩ | ⟨rfl, rfl⟩ | ⟨rfl, rfl⟩ | ⟨rfl, rfl⟩ | ⟨rfl, rfl⟩ | ⟨rfl, rfl⟩ | ⟨rfl, rfl⟩ | ⟨rfl, rfl⟩ | ⟨rfl, rfl⟩ | ⟨rfl, rfl⟩ | ⟨rfl, rfl⟩ | ⟨rfl, rfl⟩ | ⟨rfl, rfl⟩ | ⟨rfl, rfl⟩ | ⟨rfl, rfl⟩ | ⟨rfl, rfl⟩ | ⟨rfl, rfl⟩
  · rw [d0 h]; have := h.b3; exact decide_eq_false (by omega)
  · rw [d1 h]; have := h.b3; exact decide_eq_false (by omega)
  · rw [d17 h]; have := h.b3; exact decide_eq_false (by omega)
  · rw [d2 h]; have := h.b3; exact decide_eq_false (by omega)
  · rw [d14 h]; have := h.b3; exact decide_eq_true (by omega)
  · rw [d3 h]; have := h.b3; exact decide_eq_false (by omega)
  · rw [d4 h]; have := h.b3; exact decide_eq_true (by omega)
  · rw [d5 h]; have := h.b3; exact decide_eq_false (by omega)
  · rw [d6 h]; have := h.b3; exact decide_eq_false (by omega)
  · rw [d20 h]; have := h.b0; have := h.b1; have := h.b2; unfold valA; simp only [SE.den, arAdd, arMul, arRem, IntKind.wrap_u64, IntKind.wrap_i64, clI, ]; exact decide_eq_false (by simp only [Decidable.not_not]; (repeat' split) <;> omega)
  · rw [d8 h]; have := h.b3; exact decide_eq_false (by omega)
  · rw [d13 h]; have := h.b3; exact decide_eq_false (by simp only [clI]; (repeat' split) <;> omega)
  · rw [d10 h]; have := h.b3; exact decide_eq_false (by simp only [clI]; (repeat' split) <;> omega)
  · rw [d11 h]; have := h.b3; exact decide_eq_true (by omega)
  · rw [d24 h]; have := h.b3; exact decide_eq_true (by omega)
  · rw [d25 h]; have := h.b3; exact decide_eq_true (by omega)
  · rw [d26 h]; have := h.b3; exact decide_eq_true (by omega)
  · rw [d27 h]; have := h.b3; exact decide_eq_true (by omega)
  · rw [d28 h]; have := h.b3; exact decide_eq_false (by omega)
theorem h59 (h : BdI E) (hL : E.i 0 = 0) (hC : 0 ≤ E.i 1 ∧ E.i 1 ≤ 1) (hN : 4 < E.i 2) (hQ : 1 < E.i 3 / 16 % 16) (hR : 4 < E.i 3 % 16) : FaOk E ⟨fa59, rrI⟩ := by
  refine faOk_of h fun c b hm => ?_
  simp only [fa59, List.mem_cons, List.not_mem_nil, or_false, Prod.mk.injEq] at hm
  rcases hm with ⟨rfl, rfl⟩ | ⟨rfl, rfl⟩ | ⟨rfl, rfl⟩ | ⟨rfl, rfl⟩ | ⟨rfl, rfl⟩ | ⟨rfl, rfl⟩ | ⟨rfl, rfl⟩ | ⟨rfl, rfl⟩ | ⟨rfl, rfl⟩ | ⟨rfl, rfl⟩ | ⟨rfl, rfl⟩ | ⟨rfl, rfl⟩ | ⟨rfl, rfl⟩ | ⟨rfl, rfl⟩ | ⟨rfl, rfl⟩ | ⟨rfl, rfl⟩ | ⟨rfl, rfl⟩ | ⟨rfl, rfl⟩ | ⟨rfl, rfl⟩
  · rw [d0 h]; have := h.b3; exact decide_eq_false (by omega)
  · rw [d1 h]; have := h.b3; exact decide_eq_false (by omega)
  · rw [d17 h]; have := h.b3; exact decide_eq_false (by omega)
  · rw [d2 h]; have := h.b3; exact decide_eq_false (by omega)
  · rw [d14 h]; have := h.b3; exact decide_eq_true (by omega)
  · rw [d3 h]; have := h.b3; exact decide_eq_false (by omega)
  · rw [d4 h]; have := h.b3; exact decide_eq_true (by omega)
  · rw [d5 h]; have := h.b3; exact decide_eq_false (by omega)
  · rw [d6 h]; have := h.b3; exact decide_eq_true (by omega)
  · rw [d20 h]; have := h.b0; have := h.b1; have := h.b2; unfold valA; simp only [SE.den, arAdd, arMul, arRem, IntKind.wrap_u64, IntKind.wrap_i64, clI, ]; exact decide_eq_false (by simp only [Decidable.not_not]; (repeat' split) <;> omega)
  · rw [d8 h]; have := h.b3; exact decide_eq_false (by omega)
  · rw [d13 h]; have := h.b3; exact decide_eq_false (by simp only [clI]; (repeat' split) <;> omega)
  · rw [d12 h]; have := h.b3; exact decide_eq_false (by simp only [clI]; (repeat' split) <;> omega)
  · rw [d11 h]; have := h.b3; exact decide_eq_true (by omega)
  · rw [d24 h]; have := h.b3; exact decide_eq_true (by omega)
  · rw [d25 h]; have := h.b3; exact decide_eq_true (by omega)
  · rw [d26 h]; have := h.b3; exact decide_eq_true (by omega)
  · rw [d27 h]; have := h.b3; exact decide_eq_true (by omega)
  · rw [d28 h]; have := h.b3; exact decide_eq_false (by omega)
theorem h60 (h : BdI E) (hL : E.i 0 = 0) (hC : 1 < E.i 1) (hN : E.i 2 < 0) (hQ : E.i 3 / 16 % 16 ≤ 1) (hR : E.i 3 % 16 ≤ 4) : FaOk E ⟨fa60, rrI⟩ := by
  refine faOk_of h fun c b hm => ?_
  simp only [fa60, List.mem_cons, List.not_mem_nil, or_false, Prod.mk.injEq] at hm
  rcases hm with ⟨rfl, rfl⟩ | ⟨rfl, rfl⟩ | ⟨rfl, rfl⟩ | ⟨rfl, rfl⟩ | ⟨rfl, rfl⟩ | ⟨rfl, rfl⟩ | ⟨rfl, rfl⟩ | ⟨rfl, rfl⟩ | ⟨rfl, rfl⟩ | ⟨rfl, rfl⟩ | ⟨rfl, rfl⟩ | ⟨rfl, rfl⟩ | ⟨rfl, rfl⟩ | ⟨rfl, rfl⟩ | ⟨rfl, rfl⟩ | ⟨rfl, rfl⟩
  · rw [d0 h]; have := h.b3; exact decide_eq_false (by omega)
  · rw [d1 h]; have := h.b3; exact decide_eq_false (by omega)
  · rw [d17 h]; have := h.b3; exact decide_eq_true (by omega)
  · rw [d2 h]; have := h.b3; exact decide_eq_true (by omega)
  · rw [d3 h]; have := h.b3; exact decide_eq_false (by omega)
  · rw [d4 h]; have := h.b3; exact decide_eq_false (by omega)
  · rw [d5 h]; have := h.b3; exact decide_eq_false (by omega)
  · rw [d6 h]; have := h.b3; exact decide_eq_false (by omega)
  · rw [d21 h]; have := h.b0; have := h.b1; have := h.b2; unfold valA; simp only [SE.den, arAdd, arMul, arRem, IntKind.wrap_u64, IntKind.wrap_i64, clI, ]; exact decide_eq_false (by simp only [Decidable.not_not]; (repeat' split) <;> omega)
  · rw [d8 h]; have := h.b3; exact decide_eq_false (by omega)
  · rw [d9 h]; have := h.b3; exact decide_eq_false (by simp only [clI]; (repeat' split) <;> omega)
  · rw [d10 h]; have := h.b3; exact decide_eq_false (by simp only [clI]; (repeat' split) <;> omega)
  · rw [d11 h]; have := h.b3; exact decide_eq_true (by omega)
  · rw [d24 h]; have := h.b3; exact decide_eq_true (by omega)
  · rw [d25 h]; have := h.b3; exact decide_eq_true (by omega)
  · rw [d26 h]; have := h.b3; exact decide_eq_false (by omega)
theorem h61 (h : BdI E) (hL : E.i 0 = 0) (hC : 1 < E.i 1) (hN : E.i 2 < 0) (hQ : E.i 3 / 16 % 16 ≤ 1) (hR : 4 < E.i 3 % 16) : FaOk E ⟨fa61, rrI⟩ := by
  refine faOk_of h fun c b hm => ?_
  simp only [fa61, List.mem_cons, List.not_mem_nil, or_false, Prod.mk.injEq] at hm
  rcases hm with ⟨rfl, rfl⟩ | ⟨rfl, rfl⟩ | ⟨rfl, rfl⟩ | ⟨rfl, rfl⟩ | ⟨rfl, rfl⟩ | ⟨rfl, rfl⟩ | ⟨rfl, rfl⟩ | ⟨rfl, rfl⟩ | ⟨rfl, rfl⟩ | ⟨rfl, rfl⟩ | ⟨rfl, rfl⟩ | ⟨rfl, rfl⟩ | ⟨rfl, rfl⟩ | ⟨rfl, rfl⟩ | ⟨rfl, rfl⟩ | ⟨rfl, rfl⟩
  · rw [d0 h]; have := h.b3; exact decide_eq_false (by omega)
  · rw [d1 h]; have := h.b3; exact decide_eq_false (by omega)
  · rw [d17 h]; have := h.b3; exact decide_eq_true (by omega)
  · rw [d2 h]; have := h.b3; exact decide_eq_true (by omega)
  · rw [d3 h]; have := h.b3; exact decide_eq_false (by omega)
  · rw [d4 h]; have := h.b3; exact decide_eq_false (by omega)
  · rw [d5 h]; have := h.b3; exact decide_eq_false (by omega)
  · rw [d6 h]; have := h.b3; exact decide_eq_true (by omega)
  · rw [d21 h]; have := h.b0; have := h.b1; have := h.b2; unfold valA; simp only [SE.den, arAdd, arMul, arRem, IntKind.wrap_u64, IntKind.wrap_i64, clI, ]; exact decide_eq_false (by simp only [Decidable.not_not]; (repeat' split) <;> omega)
  · rw [d8 h]; have := h.b3; exact decide_eq_false (by omega)
  · rw [d9 h]; have := h.b3; exact decide_eq_false (by simp only [clI]; (repeat' split) <;> omega)
  · rw [d12 h]; have := h.b3; exact decide_eq_false (by simp only [clI]; (repeat' split) <;> omega)
  · rw [d11 h]; have := h.b3; exact decide_eq_true (by omega)
  · rw [d24 h]; have := h.b3; exact decide_eq_true (by omega)
  · rw [d25 h]; have := h.b3; exact decide_eq_true (by omega)
  · rw [d26 h]; have := h.b3; exact decide_eq_false (by omega)
theorem h62 (h : BdI E) (hL : E.i 0 = 0) (hC : 1 < E.i 1) (hN : E.i 2 < 0) (hQ : 1 < E.i 3 / 16 % 16) (hR : E.i 3 % 16 ≤ 4) : FaOk E ⟨fa62, rrI⟩ := by
  refine faOk_of h fun c b hm => ?_
  simp only [fa62, List.mem_cons, List.not_mem_nil, or_false, Prod.mk.injEq] at hm
  rcases hm with ⟨rfl, rfl⟩ | ⟨rfl, rfl⟩ | ⟨rfl, rfl⟩ | ⟨rfl, rfl⟩ | ⟨rfl, rfl⟩ | ⟨rfl, rfl⟩ | ⟨rfl, rfl⟩ | ⟨rfl, rfl⟩ | ⟨rfl, rfl⟩ | ⟨rfl, rfl⟩ | ⟨rfl, rfl⟩ | ⟨rfl, rfl⟩ | ⟨rfl, rfl⟩ | ⟨rfl, rfl⟩ | ⟨rfl, rfl⟩ | ⟨rfl, rfl⟩
  · rw [d0 h]; have := h.b3; exact decide_eq_false (by omega)
  · rw [d1 h]; have := h.b3; exact decide_eq_false (by omega)
  · rw [d17 h]; have := h.b3; exact decide_eq_true (by omega)
  · rw [d2 h]; have := h.b3; exact decide_eq_true (by omega)
  · rw [d3 h]; have := h.b3; exact decide_eq_false (by omega)
  · rw [d4 h]; have := h.b3; exact decide_eq_true (by omega)
  · rw [d5 h]; have := h.b3; exact decide_eq_false (by omega)
  · rw [d6 h]; have := h.b3; exact decide_eq_false (by omega)
  · rw [d21 h]; have := h.b0; have := h.b1; have := h.b2; unfold valA; simp only [SE.den, arAdd, arMul, arRem, IntKind.wrap_u64, IntKind.wrap_i64, clI, ]; exact decide_eq_false (by simp only [Decidable.not_not]; (repeat' split) <;> omega)
  · rw [d8 h]; have := h.b3; exact decide_eq_false (by omega)
  · rw [d13 h]; have := h.b3; exact decide_eq_false (by simp only [clI]; (repeat' split) <;> omega)
  · rw [d10 h]; have := h.b3; exact decide_eq_false (by simp only [clI]; (repeat' split) <;> omega)
  · rw [d11 h]; have := h.b3; exact decide_eq_true (by omega)
  · rw [d24 h]; have := h.b3; exact decide_eq_true (by omega)
  · rw [d25 h]; have := h.b3; exact decide_eq_true (by omega)
  · rw [d26 h]; have := h.b3; exact decide_eq_false (by omega)
theorem h63 (h : BdI E) (hL : E.i 0 = 0) (hC : 1 < E.i 1) (hN : E.i 2 < 0) (hQ : 1 < E.i 3 / 16 % 16) (hR : 4 < E.i 3 % 16) : FaOk E ⟨fa63, rrI⟩ := by
  refine faOk_of h fun c b hm => ?_
  simp only [fa63, List.mem_cons, List.not_mem_nil, or_false, Prod.mk.injEq] at hm
  rcases hm with ⟨rfl, rfl⟩ | ⟨rfl, rfl⟩ | ⟨rfl, rfl⟩ | ⟨rfl, rfl⟩ | ⟨rfl, rfl⟩ | ⟨rfl, rfl⟩ | ⟨rfl, rfl⟩ | ⟨rfl, rfl⟩ | ⟨rfl, rfl⟩ | ⟨rfl, rfl⟩ | ⟨rfl, rfl⟩ | ⟨rfl, rfl⟩ | ⟨rfl, rfl⟩ | ⟨rfl, rfl⟩ | ⟨rfl, rfl⟩ | ⟨rfl, rfl⟩
  · rw [d0 h]; have := h.b3; exact decide_eq_false (by omega)
  · rw [d1 h]; have := h.b3; exact decide_eq_false (by omega)
  · rw [d17 h]; have := h.b3; exact decide_eq_true (by omega)
  · rw [d2 h]; have := h.b3; exact decide_eq_true (by omega)
  · rw [d3 h]; have := h.b3; exact decide_eq_false (by omega)
  · rw [d4 h]; have := h.b3; exact decide_eq_true (by omega)
  · rw [d5 h]; have := h.b3; exact decide_eq_false (by omega)
  · rw [d6 h]; have := h.b3; exact decide_eq_true (by omega)
  · rw [d21 h]; have := h.b0; have := h.b1; have := h.b2; unfold valA; simp only [SE.den, arAdd, arMul, arRem, IntKind.wrap_u64, IntKind.wrap_i64, clI, ]; exact decide_eq_false (by simp only [Decidable.not_not]; (repeat' split) <;> omega)
  · rw [d8 h]; have := h.b3; exact decide_eq_false (by omega)
  · rw [d13 h]; have := h.b3; exact decide_eq_false (by simp only [clI]; (repeat' split) <;> omega)
  · rw [d12 h]; have := h.b3; exact decide_eq_false (by simp only [clI]; (repeat' split) <;> omega)
  · rw [d11 h]; have := h.b3; exact decide_eq_true (by omega)
  · rw [d24 h]; have := h.b3; exact decide_eq_true (by omega)
  · rw [d25 h]; have := h.b3; exact decide_eq_true (by omega)
  · rw [d26 h]; have := h.b3; exact decide_eq_false (by omega)
theorem h64 (h : BdI E) (hL : E.i 0 = 0) (hC : 1 < E.i 1) (hN : 0 ≤ E.i 2 ∧ E.i 2 ≤ 4) (hQ : E.i 3 / 16 % 16 ≤ 1) (hR : E.i 3 % 16 ≤ 4) : FaOk E ⟨fa64, rrI⟩ := by
  refine faOk_of h fun c b hm => ?_
  simp only [fa64, List.mem_cons, List.not_mem_nil, or_false, Prod.mk.injEq] at hm
  rcases hm with ⟨rfl, rfl⟩ | ⟨rfl, rfl⟩ | ⟨rfl, rfl⟩ | ⟨rfl, rfl⟩ | ⟨rfl, rfl⟩ | ⟨rfl, rfl⟩ | ⟨rfl, rfl⟩ | ⟨rfl, rfl⟩ | ⟨rfl, rfl⟩ | ⟨rfl, rfl⟩ | ⟨rfl, rfl⟩ | ⟨rfl, rfl⟩ | ⟨rfl, rfl⟩ | ⟨rfl, rfl⟩ | ⟨rfl, rfl⟩ | ⟨rfl, rfl⟩ | ⟨rfl, rfl⟩
  · rw [d0 h]; have := h.b3; exact decide_eq_false (by omega)
  · rw [d1 h]; have := h.b3; exact decide_eq_false (by omega)
  · rw [d17 h]; have := h.b3; exact decide_eq_true (by omega)
  · rw [d2 h]; have := h.b3; exact decide_eq_false (by omega)
  · rw [d14 h]; have := h.b3; exact decide_eq_false (by omega)
  · rw [d3 h]; have := h.b3; exact decide_eq_false (by omega)
  · rw [d4 h]; have := h.b3; exact decide_eq_false (by omega)
  · rw [d5 h]; have := h.b3; exact decide_eq_false (by omega)
  · rw [d6 h]; have := h.b3; exact decide_eq_false (by omega)
  · rw [d22 h]; have := h.b0; have := h.b1; have := h.b2; unfold valA; simp only [SE.den, arAdd, arMul, arRem, IntKind.wrap_u64, IntKind.wrap_i64, clI, ]; exact decide_eq_false (by simp only [Decidable.not_not]; (repeat' split) <;> omega)
  · rw [d8 h]; have := h.b3; exact decide_eq_false (by omega)
  · rw [d9 h]; have := h.b3; exact decide_eq_false (by simp only [clI]; (repeat' split) <;> omega)
  · rw [d10 h]; have := h.b3; exact decide_eq_false (by simp only [clI]; (repeat' split) <;> omega)
  · rw [d11 h]; have := h.b3; exact decide_eq_true (by omega)
  · rw [d24 h]; have := h.b3; exact decide_eq_true (by omega)
  · rw [d25 h]; have := h.b3; exact decide_eq_true (by omega)
  · rw [d26 h]; have := h.b3; exact decide_eq_false (by omega)
theorem h65 (h : BdI E) (hL : E.i 0 = 0) (hC : 1 < E.i 1) (hN : 0 ≤ E.i 2 ∧ E.i 2 ≤ 4) (hQ : E.i 3 / 16 % 16 ≤ 1) (hR : 4 < E.i 3 % 16) : FaOk E ⟨fa65, rrI⟩ := by
  refine faOk_of h fun c b hm => ?_
  simp only [fa65, List.mem_cons, List.not_mem_nil, or_false, Prod.mk.injEq] at hm
  rcases hm with ⟨rfl, rfl⟩ | ⟨rfl, rfl⟩ | ⟨rfl, rfl⟩ | ⟨rfl, rfl⟩ | ⟨rfl, rfl⟩ | ⟨rfl, rfl⟩ | ⟨rfl, rfl⟩ | ⟨rfl, rfl⟩ | ⟨rfl, rfl⟩ | ⟨rfl, rfl⟩ | ⟨rfl, rfl⟩ | ⟨rfl, rfl⟩ | ⟨rfl, rfl⟩ | ⟨rfl, rfl⟩ | ⟨rfl, rfl⟩ | ⟨rfl, rfl⟩ | ⟨rfl, rfl⟩
  · rw [d0 h]; have := h.b3; exact decide_eq_false (by omega)
  · rw [d1 h]; have := h.b3; exact decide_eq_false (by omega)
  · rw [d17 h]; have := h.b3; exact decide_eq_true (by omega)
  · rw [d2 h]; have := h.b3; exact decide_eq_false (by omega)
  · rw [d14 h]; have := h.b3; exact decide_eq_false (by omega)
  · rw [d3 h]; have := h.b3; exact decide_eq_false (by omega)
  · rw [d4 h]; have := h.b3; exact decide_eq_false (by omega)
  · rw [d5 h]; have := h.b3; exact decide_eq_false (by omega)
  · rw [d6 h]; have := h.b3; exact decide_eq_true (by omega)
  · rw [d22 h]; have := h.b0; have := h.b1; have := h.b2; unfold valA; simp only [SE.den, arAdd, arMul, arRem, IntKind.wrap_u64, IntKind.wrap_i64, clI, ]; exact decide_eq_false (by simp only [Decidable.not_not]; (repeat' split) <;> omega)
  · rw [d8 h]; have := h.b3; exact decide_eq_false (by omega)
  · rw [d9 h]; have := h.b3; exact decide_eq_false (by simp only [clI]; (repeat' split) <;> omega)
  · rw [d12 h]; have := h.b3; exact decide_eq_false (by simp only [clI]; (repeat' split) <;> omega)
  · rw [d11 h]; have := h.b3; exact decide_eq_true (by omega)
  · rw [d24 h]; have := h.b3; exact decide_eq_true (by omega)
  · rw [d25 h]; have := h.b3; exact decide_eq_true (by omega)
  · rw [d26 h]; have := h.b3; exact decide_eq_false (by omega)
theorem h66 (h : BdI E) (hL : E.i 0 = 0) (hC : 1 < E.i 1) (hN : 0 ≤ E.i 2 ∧ E.i 2 ≤ 4) (hQ : 1 < E.i 3 / 16 % 16) (hR : E.i 3 % 16 ≤ 4) : FaOk E ⟨fa66, rrI⟩ := by
  refine faOk_of h fun c b hm => ?_
  simp only [fa66, List.mem_cons, List.not_mem_nil, or_false, Prod.mk.injEq] at hm
  rcases hm with ⟨rfl, rfl⟩ | ⟨rfl, rfl⟩ | ⟨rfl, rfl⟩ | ⟨rfl, rfl⟩ | ⟨rfl, rfl⟩ | ⟨rfl, rfl⟩ | ⟨rfl, rfl⟩ | ⟨rfl, rfl⟩ | ⟨rfl, rfl⟩ | ⟨rfl, rfl⟩ | ⟨rfl, rfl⟩ | ⟨rfl, rfl⟩ | ⟨rfl, rfl⟩ | ⟨rfl, rfl⟩ | ⟨rfl, rfl⟩ | ⟨rfl, rfl⟩ | ⟨rfl, rfl⟩
  · rw [d0 h]; have := h.b3; exact decide_eq_false (by omega)
  · rw [d1 h]; have := h.b3; exact decide_eq_false (by omega)
  · rw [d17 h]; have := h.b3; exact decide_eq_true (by omega)
  · rw [d2 h]; have := h.b3; exact decide_eq_false (by omega)
  · rw [d14 h]; have := h.b3; exact decide_eq_false (by omega)
  · rw [d3 h]; have := h.b3; exact decide_eq_false (by omega)
  · rw [d4 h]; have := h.b3; exact decide_eq_true (by omega)
  · rw [d5 h]; have := h.b3; exact decide_eq_false (by omega)
  · rw [d6 h]; have := h.b3; exact decide_eq_false (by omega)
  · rw [d22 h]; have := h.b0; have := h.b1; have := h.b2; unfold valA; simp only [SE.den, arAdd, arMul, arRem, IntKind.wrap_u64, IntKind.wrap_i64, clI, ]; exact decide_eq_false (by simp only [Decidable.not_not]; (repeat' split) <;> omega)
  · rw [d8 h]; have := h.b3; exact decide_eq_false (by omega)
  · rw [d13 h]; have := h.b3; exact decide_eq_false (by simp only [clI]; (repeat' split) <;> omega)
  · rw [d10 h]; have := h.b3; exact decide_eq_false (by simp only [clI]; (repeat' split) <;> omega)
  · rw [d11 h]; have := h.b3; exact decide_eq_true (by omega)
  · rw [d24 h]; have := h.b3; exact decide_eq_true (by omega)
  · rw [d25 h]; have := h.b3; exact decide_eq_true (by omega)
  · rw [d26 h]; have := h.b3; exact decide_eq_false (by omega)
theorem h67 (h : BdI E) (hL : E.i 0 = 0) (hC : 1 < E.i 1) (hN : 0 ≤ E.i 2 ∧ E.i 2 ≤ 4) (hQ : 1 < E.i 3 / 16 % 16) (hR : 4 < E.i 3 % 16) : FaOk E ⟨fa67, rrI⟩ := by
  refine faOk_of h fun c b hm => ?_
  simp only [fa67, List.mem_cons, List.not_mem_nil, or_false, Prod.mk.injEq] at hm
  rcases hm with ⟨rfl, rfl⟩ | ⟨rfl, rfl⟩ | ⟨rfl, rfl⟩ | ⟨rfl, rfl⟩ | ⟨rfl, rfl⟩ | ⟨rfl, rfl⟩ | ⟨rfl, rfl⟩ | ⟨rfl, rfl⟩ | ⟨rfl, rfl⟩ | ⟨rfl, rfl⟩ | ⟨rfl, rfl⟩ | ⟨rfl, rfl⟩ | ⟨rfl, rfl⟩ | ⟨rfl, rfl⟩ | ⟨rfl, rfl⟩ | ⟨rfl, rfl⟩ | ⟨rfl, rfl⟩
  · rw [d0 h]; have := h.b3; exact decide_eq_false (by omega)
  · rw [d1 h]; have := h.b3; exact decide_eq_false (by omega)
  · rw [d17 h]; have := h.b3; exact decide_eq_true (by omega)
  · rw [d2 h]; have := h.b3; exact decide_eq_false (by omega)
  · rw [d14 h]; have := h.b3; exact decide_eq_false (by omega)
  · rw [d3 h]; have := h.b3; exact decide_eq_false (by omega)
  · rw [d4 h]; have := h.b3; exact decide_eq_true (by omega)
  · rw [d5 h]; have := h.b3; exact decide_eq_false (by omega)
  · rw [d6 h]; have := h.b3; exact decide_eq_true (by omega)
  · rw [d22 h]; have := h.b0; have := h.b1; have := h.b2; unfold valA; simp only [SE.den, arAdd, arMul, arRem, IntKind.wrap_u64, IntKind.wrap_i64, clI, ]; exact decide_eq_false (by simp only [Decidable.not_not]; (repeat' split) <;> omega)
  · rw [d8 h]; have := h.b3; exact decide_eq_false (by omega)
  · rw [d13 h]; have := h.b3; exact decide_eq_false (by simp only [clI]; (repeat' split) <;> omega)
  · rw [d12 h]; have := h.b3; exact decide_eq_false (by simp only [clI]; (repeat' split) <;> omega)
  · rw [d11 h]; have := h.b3; exact decide_eq_true (by omega)
  · rw [d24 h]; have := h.b3; exact decide_eq_true (by omega)
  · rw [d25 h]; have := h.b3; exact decide_eq_true (by omega)
  · rw [d26 h]; have := h.b3; exact decide_eq_false (by omega)
theorem h68 (h : BdI E) (hL : E.i 0 = 0) (hC : 1 < E.i 1) (hN : 4 < E.i 2) (hQ : E.i 3 / 16 % 16 ≤ 1) (hR : E.i 3 % 16 ≤ 4) : FaOk E ⟨fa68, rrI⟩ := by
  refine faOk_of h fun c b hm => ?_
  simp only [fa68, List.mem_cons, List.not_mem_nil, or_false, Prod.mk.injEq] at hm
  rcases hm with ⟨rfl, rfl⟩ | ⟨rfl, rfl⟩ | ⟨rfl, rfl⟩ | ⟨rfl, rfl⟩ | ⟨rfl, rfl⟩ | ⟨rfl, rfl⟩ | ⟨rfl, rfl⟩ | ⟨rfl, rfl⟩ | ⟨rfl, rfl⟩ | ⟨rfl, rfl⟩ | ⟨rfl, rfl⟩ | ⟨rfl, rfl⟩ | ⟨rfl, rfl⟩ | ⟨rfl, rfl⟩ | ⟨rfl, rfl⟩ | ⟨rfl, rfl⟩ | ⟨rfl, rfl⟩
  · rw [d0 h]; have := h.b3; exact decide_eq_false (by omega)
  · rw [d1 h]; have := h.b3; exact decide_eq_false (by omega)
  · rw [d17 h]; have := h.b3; exact decide_eq_true (by omega)
  · rw [d2 h]; have := h.b3; exact decide_eq_false (by omega)
  · rw [d14 h]; have := h.b3; exact decide_eq_true (by omega)
  · rw [d3 h]; have := h.b3; exact decide_eq_false (by omega)
  · rw [d4 h]; have := h.b3; exact decide_eq_false (by omega)
  · rw [d5 h]; have := h.b3; exact decide_eq_false (by omega)
  · rw [d6 h]; have := h.b3; exact decide_eq_false (by omega)
  · rw [d23 h]; have := h.b0; have := h.b1; have := h.b2; unfold valA; simp only [SE.den, arAdd, arMul, arRem, IntKind.wrap_u64, IntKind.wrap_i64, clI, ]; exact decide_eq_false (by simp only [Decidable.not_not]; (repeat' split) <;> omega)
  · rw [d8 h]; have := h.b3; exact decide_eq_false (by omega)
  · rw [d9 h]; have := h.b3; exact decide_eq_false (by simp only [clI]; (repeat' split) <;> omega)
  · rw [d10 h]; have := h.b3; exact decide_eq_false (by simp only [clI]; (repeat' split) <;> omega)
  · rw [d11 h]; have := h.b3; exact decide_eq_true (by omega)
  · rw [d24 h]; have := h.b3; exact decide_eq_true (by omega)
  · rw [d25 h]; have := h.b3; exact decide_eq_true (by omega)
  · rw [d26 h]; have := h.b3; exact decide_eq_false (by omega)
theorem h69 (h : BdI E) (hL : E.i 0 = 0) (hC : 1 < E.i 1) (hN : 4 < E.i 2) (hQ : E.i 3 / 16 % 16 ≤ 1) (hR : 4 < E.i 3 % 16) : FaOk E ⟨fa69, rrI⟩ := by
  refine faOk_of h fun c b hm => ?_
  simp only [fa69, List.mem_cons, List.not_mem_nil, or_false, Prod.mk.injEq] at hm
  rcases hm with ⟨rfl, rfl⟩ | ⟨rfl, rfl⟩ | ⟨rfl, rfl⟩ | ⟨rfl, rfl⟩ | ⟨rfl, rfl⟩ | ⟨rfl, rfl⟩ | ⟨rfl, rfl⟩ | ⟨rfl, rfl⟩ | ⟨rfl, rfl⟩ | ⟨rfl, rfl⟩ | ⟨rfl, rfl⟩ | ⟨rfl, rfl⟩ | ⟨rfl, rfl⟩ | ⟨rfl, rfl⟩ | ⟨rfl, rfl⟩ | ⟨rfl, rfl⟩ | ⟨rfl, rfl⟩
  · rw [d0 h]; have := h.b3; exact decide_eq_false (by omega)
  · rw [d1 h]; have := h.b3; exact decide_eq_false (by omega)
  · rw [d17 h]; have := h.b3; exact decide_eq_true (by omega)
  · rw [d2 h]; have := h.b3; exact decide_eq_false (by omega)
  · rw [d14 h]; have := h.b3; exact decide_eq_true (by omega)
  · rw [d3 h]; have := h.b3; exact decide_eq_false (by omega)
  · rw [d4 h]; have := h.b3; exact decide_eq_false (by omega)
  · rw [d5 h]; have := h.b3; exact decide_eq_false (by omega)
  · rw [d6 h]; have := h.b3; exact decide_eq_true (by omega)
  · rw [d23 h]; have := h.b0; have := h.b1; have := h.b2; unfold valA; simp only [SE.den, arAdd, arMul, arRem, IntKind.wrap_u64, IntKind.wrap_i64, clI, ]; exact decide_eq_false (by simp only [Decidable.not_not]; (repeat' split) <;> omega)
  · rw [d8 h]; have := h.b3; exact decide_eq_false (by omega)
  · rw [d9 h]; have := h.b3; exact decide_eq_false (by simp only [clI]; (repeat' split) <;> omega)
  · rw [d12 h]; have := h.b3; exact decide_eq_false (by simp only [clI]; (repeat' split) <;> omega)
  · rw [d11 h]; have := h.b3; exact decide_eq_true (by omega)
  · rw [d24 h]; have := h.b3; exact decide_eq_true (by omega)
  · rw [d25 h]; have := h.b3; exact decide_eq_true (by omega)
  · rw [d26 h]; have := h.b3; exact decide_eq_false (by omega)
theorem h70 (h : BdI E) (hL : E.i 0 = 0) (hC : 1 < E.i 1) (hN : 4 < E.i 2) (hQ : 1 < E.i 3 / 16 % 16) (hR : E.i 3 % 16 ≤ 4) : FaOk E ⟨fa70, rrI⟩ := by
  refine faOk_of h fun c b hm => ?_
  simp only [fa70, List.mem_cons, List.not_mem_nil, or_false, Prod.mk.injEq] at hm
  rcases hm with ⟨rfl, rfl⟩ | ⟨rfl, rfl⟩ | ⟨rfl, rfl⟩ | ⟨rfl, rfl⟩ | ⟨rfl, rfl⟩ | ⟨rfl, rfl⟩ | ⟨rfl, rfl⟩ | ⟨rfl, rfl⟩ | ⟨rfl, rfl⟩ | ⟨rfl, rfl⟩ | ⟨rfl, rfl⟩ | ⟨rfl, rfl⟩ | ⟨rfl, rfl⟩ | ⟨rfl, rfl⟩ | ⟨rfl, rfl⟩ | ⟨rfl, rfl⟩ | ⟨rfl, rfl⟩
  · rw [d0 h]; have := h.b3; exact decide_eq_false (by omega)
  · rw [d1 h]; have := h.b3; exact decide_eq_false (by omega)
  · rw [d17 h]; have := h.b3; exact decide_eq_true (by omega)
  · rw [d2 h]; have := h.b3; exact decide_eq_false (by omega)
  · rw [d14 h]; have := h.b3; exact decide_eq_true (by omega)
  · rw [d3 h]; have := h.b3; exact decide_eq_false (by omega)
  · rw [d4 h]; have := h.b3; exact decide_eq_true (by omega)
  · rw [d5 h]; have := h.b3; exact decide_eq_false (by omega)
  · rw [d6 h]; have := h.b3; exact decide_eq_false (by omega)
  · rw [d23 h]; have := h.b0; have := h.b1; have := h.b2; unfold valA; simp only [SE.den, arAdd, arMul, arRem, IntKind.wrap_u64, IntKind.wrap_i64, clI, ]; exact decide_eq_false (by simp only [Decidable.not_not]; (repeat' split) <;> omega)
  · rw [d8 h]; have := h.b3; exact decide_eq_false (by omega)
  · rw [d13 h]; have := h.b3; exact decide_eq_false (by simp only [clI]; (repeat' split) <;> omega)
  · rw [d10 h]; have := h.b3; exact decide_eq_false (by simp only [clI]; (repeat' split) <;> omega)
  · rw [d11 h]; have := h.b3; exact decide_eq_true (by omega)
  · rw [d24 h]; have := h.b3; exact decide_eq_true (by omega)
  · rw [d25 h]; have := h.b3; exact decide_eq_true (by omega)
  · rw [d26 h]; have := h.b3; exact decide_eq_false (by omega)
theorem h71 (h : BdI E) (hL : E.i 0 = 0) (hC : 1 < E.i 1) (hN : 4 < E.i 2) (hQ : 1 < E.i 3 / 16 % 16) (hR : 4 < E.i 3 % 16) : FaOk E ⟨fa71, rrI⟩ := by
  refine faOk_of h fun c b hm => ?_
  simp only [fa71, List.mem_cons, List.not_mem_nil, or_false, Prod.mk.injEq] at hm
  rcases hm with ⟨rfl, rfl⟩ | ⟨rfl, rfl⟩ | ⟨rfl, rfl⟩ | ⟨rfl, rfl⟩ | ⟨rfl, rfl⟩ | ⟨rfl, rfl⟩ | ⟨rfl, rfl⟩ | ⟨rfl, rfl⟩ | ⟨rfl, rfl⟩ | ⟨rfl, rfl⟩ | ⟨rfl, rfl⟩ | ⟨rfl, rfl⟩ | ⟨rfl, rfl⟩ | ⟨rfl, rfl⟩ | ⟨rfl, rfl⟩ | ⟨rfl, rfl⟩ | ⟨rfl, rfl⟩
  · rw [d0 h]; have := h.b3; exact decide_eq_false (by omega)
  · rw [d1 h]; have := h.b3; exact decide_eq_false (by omega)
  · rw [d17 h]; have := h.b3; exact decide_eq_true (by omega)
  · rw [d2 h]; have := h.b3; exact decide_eq_false (by omega)
  · rw [d14 h]; have := h.b3; exact decide_eq_true (by omega)
  · rw [d3 h]; have := h.b3; exact decide_eq_false (by omega)
  · rw [d4 h]; have := h.b3; exact decide_eq_true (by omega)
  · rw [d5 h]; have := h.b3; exact decide_eq_false (by omega)
  · rw [d6 h]; have := h.b3; exact decide_eq_true (by omega)
  · rw [d23 h]; have := h.b0; have := h.b1; have := h.b2; unfold valA; simp only [SE.den, arAdd, arMul, arRem, IntKind.wrap_u64, IntKind.wrap_i64, clI, ]; exact decide_eq_false (by simp only [Decidable.not_not]; (repeat' split) <;> omega)
  · rw [d8 h]; have := h.b3; exact decide_eq_false (by omega)
  · rw [d13 h]; have := h.b3; exact decide_eq_false (by simp only [clI]; (repeat' split) <;> omega)
  · rw [d12 h]; have := h.b3; exact decide_eq_false (by simp only [clI]; (repeat' split) <;> omega)
  · rw [d11 h]; have := h.b3; exact decide_eq_true (by omega)
  · rw [d24 h]; have := h.b3; exact decide_eq_true (by omega)
  · rw [d25 h]; have := h.b3; exact decide_eq_true (by omega)
  · rw [d26 h]; have := h.b3; exact decide_eq_false (by omega)
theorem h72 (h : BdI E) (hL : 0 < E.i 0 ∧ E.i 0 < 1099511627776) (hC : E.i 1 < 0) (hN : E.i 2 < 0) (hQ : E.i 3 / 16 % 16 ≤ 1) (hR : E.i 3 % 16 ≤ 4) : FaOk E ⟨fa72, rrI⟩ := by
  refine faOk_of h fun c b hm => ?_
  simp only [fa72, List.mem_cons, List.not_mem_nil, or_false, Prod.mk.injEq] at hm
  rcases hm with ⟨rfl, rfl⟩ | ⟨rfl, rfl⟩ | ⟨rfl, rfl⟩ | ⟨rfl, rfl⟩ | ⟨rfl, rfl⟩ | ⟨rfl, rfl⟩ | ⟨rfl, rfl⟩ | ⟨rfl, rfl⟩ | ⟨rfl, rfl⟩ | ⟨rfl, rfl⟩ | ⟨rfl, rfl⟩ | ⟨rfl, rfl⟩ | ⟨rfl, rfl⟩ | ⟨rfl, rfl⟩
  · rw [d0 h]; have := h.b3; exact decide_eq_true (by omega)
  · rw [d1 h]; have := h.b3; exact decide_eq_true (by omega)
  · rw [d2 h]; have := h.b3; exact decide_eq_true (by omega)
  · rw [d3 h]; have := h.b3; exact decide_eq_false (by omega)
  · rw [d4 h]; have := h.b3; exact decide_eq_false (by omega)
  · rw [d5 h]; have := h.b3; exact decide_eq_false (by omega)
  · rw [d6 h]; have := h.b3; exact decide_eq_false (by omega)
  · rw [d32 h]; have := h.b0; have := h.b1; have := h.b2; unfold valA; simp only [SE.den, arAdd, arMul, arRem, IntKind.wrap_u64, IntKind.wrap_i64, clI, tmod_pos (show 0 ≤ E.i 0 by omega)]; exact decide_eq_false (by simp only [Decidable.not_not]; (repeat' split) <;> omega)
  · rw [d8 h]; have := h.b3; exact decide_eq_false (by omega)
  · rw [d9 h]; have := h.b3; exact decide_eq_false (by simp only [clI]; (repeat' split) <;> omega)
  · rw [d10 h]; have := h.b3; exact decide_eq_false (by simp only [clI]; (repeat' split) <;> omega)
  · rw [d11 h]; have := h.b3; exact decide_eq_true (by omega)
  · rw [d24 h]; have := h.b3; exact decide_eq_true (by omega)
  · rw [d25 h]; have := h.b3; exact decide_eq_false (by omega)
theorem h73 (h : BdI E) (hL : 0 < E.i 0 ∧ E.i 0 < 1099511627776) (hC : E.i 1 < 0) (hN : E.i 2 < 0) (hQ : E.i 3 / 16 % 16 ≤ 1) (hR : 4 < E.i 3 % 16) : FaOk E ⟨fa73, rrI⟩ := by
  refine faOk_of h fun c b hm => ?_
  simp only [fa73, List.mem_cons, List.not_mem_nil, or_false, Prod.mk.injEq] at hm
  rcases hm with ⟨rfl, rfl⟩ | ⟨rfl, rfl⟩ | ⟨rfl, rfl⟩ | ⟨rfl, rfl⟩ | ⟨rfl, rfl⟩ | ⟨rfl, rfl⟩ | ⟨rfl, rfl⟩ | ⟨rfl, rfl⟩ | ⟨rfl, rfl⟩ | ⟨rfl, rfl⟩ | ⟨rfl, rfl⟩ | ⟨rfl, rfl⟩ | ⟨rfl, rfl⟩ | ⟨rfl, rfl⟩
  · rw [d0 h]; have := h.b3; exact decide_eq_true (by omega)
  · rw [d1 h]; have := h.b3; exact decide_eq_true (by omega)
  · rw [d2 h]; have := h.b3; exact decide_eq_true (by omega)
  · rw [d3 h]; have := h.b3; exact decide_eq_false (by omega)
  · rw [d4 h]; have := h.b3; exact decide_eq_false (by omega)
  · rw [d5 h]; have := h.b3; exact decide_eq_false (by omega)
  · rw [d6 h]; have := h.b3; exact decide_eq_true (by omega)
  · rw [d32 h]; have := h.b0; have := h.b1; have := h.b2; unfold valA; simp only [SE.den, arAdd, arMul, arRem, IntKind.wrap_u64, IntKind.wrap_i64, clI, tmod_pos (show 0 ≤ E.i 0 by omega)]; exact decide_eq_false (by simp only [Decidable.not_not]; (repeat' split) <;> omega)
  · rw [d8 h]; have := h.b3; exact decide_eq_false (by omega)
  · rw [d9 h]; have := h.b3; exact decide_eq_false (by simp only [clI]; (repeat' split) <;> omega)
  · rw [d12 h]; have := h.b3; exact decide_eq_false (by simp only [clI]; (repeat' split) <;> omega)
  · rw [d11 h]; have := h.b3; exact decide_eq_true (by omega)
  · rw [d24 h]; have := h.b3; exact decide_eq_true (by omega)
  · rw [d25 h]; have := h.b3; exact decide_eq_false (by omega)
theorem h74 (h : BdI E) (hL : 0 < E.i 0 ∧ E.i 0 < 1099511627776) (hC : E.i 1 < 0) (hN : E.i 2 < 0) (hQ : 1 < E.i 3 / 16 % 16) (hR : E.i 3 % 16 ≤ 4) : FaOk E ⟨fa74, rrI⟩ := by
  refine faOk_of h fun c b hm => ?_
  simp only [fa74, List.mem_cons, List.not_mem_nil, or_false, Prod.mk.injEq] at hm
  rcases hm with ⟨rfl, rfl⟩ | ⟨rfl, rfl⟩ | ⟨rfl, rfl⟩ | ⟨rfl, rfl⟩ | ⟨rfl, rfl⟩ | ⟨rfl, rfl⟩ | ⟨rfl, rfl⟩ | ⟨rfl, rfl⟩ | ⟨rfl, rfl⟩ | ⟨rfl, rfl⟩ | ⟨rfl, rfl⟩ | ⟨rfl, rfl⟩ | ⟨rfl, rfl⟩ | ⟨rfl, rfl⟩
  · rw [d0 h]; have := h.b3; exact decide_eq_true (by omega)
  · rw [d1 h]; have := h.b3; exact decide_eq_true (by omega)
  · rw [d2 h]; have := h.b3; exact decide_eq_true (by omega)
  · rw [d3 h]; have := h.b3; exact decide_eq_false (by omega)
  · rw [d4 h]; have := h.b3; exact decide_eq_true (by omega)
  · rw [d5 h]; have := h.b3; exact decide_eq_false (by omega)
  · rw [d6 h]; have := h.b3; exact decide_eq_false (by omega)
  · rw [d32 h]; have := h.b0; have := h.b1; have := h.b2; unfold valA; simp only [SE.den, arAdd, arMul, arRem, IntKind.wrap_u64, IntKind.wrap_i64, clI, tmod_pos (show 0 ≤ E.i 0 by omega)]; exact decide_eq_false (by simp only [Decidable.not_not]; (repeat' split) <;> omega)
  · rw [d8 h]; have := h.b3; exact decide_eq_false (by omega)
  · rw [d13 h]; have := h.b3; exact decide_eq_false (by simp only [clI]; (repeat' split) <;> omega)
  · rw [d10 h]; have := h.b3; exact decide_eq_false (by simp only [clI]; (repeat' split) <;> omega)
  · rw [d11 h]; have := h.b3; exact decide_eq_true (by omega)
  · rw [d24 h]; have := h.b3; exact decide_eq_true (by omega)
  · rw [d25 h]; have := h.b3; exact decide_eq_false (by omega)
theorem h75 (h : BdI E) (hL : 0 < E.i 0 ∧ E.i 0 < 1099511627776) (hC : E.i 1 < 0) (hN : E.i 2 < 0) (hQ : 1 < E.i 3 / 16 % 16) (hR : 4 < E.i 3 % 16) : FaOk E ⟨fa75, rrI⟩ := by
  refine faOk_of h fun c b hm => ?_
  simp only [fa75, List.mem_cons, List.not_mem_nil, or_false, Prod.mk.injEq] at hm
  rcases hm with ⟨rfl, rfl⟩ | ⟨rfl, rfl⟩ | ⟨rfl, rfl⟩ | ⟨rfl, rfl⟩ | ⟨rfl, rfl⟩ | ⟨rfl, rfl⟩ | ⟨rfl, rfl⟩ | ⟨rfl, rfl⟩ | ⟨rfl, rfl⟩ | ⟨rfl, rfl⟩ | ⟨rfl, rfl⟩ | ⟨rfl, rfl⟩ | ⟨rfl, rfl⟩ | ⟨rfl, rfl⟩
  · rw [d0 h]; have := h.b3; exact decide_eq_true (by omega)
  · rw [d1 h]; have := h.b3; exact decide_eq_true (by omega)
  · rw [d2 h]; have := h.b3; exact decide_eq_true (by omega)
  · rw [d3 h]; have := h.b3; exact decide_eq_false (by omega)
  · rw [d4 h]; have := h.b3; exact decide_eq_true (by omega)
  · rw [d5 h]; have := h.b3; exact decide_eq_false (by omega)
  · rw [d6 h]; have := h.b3; exact decide_eq_true (by omega)
  · rw [d32 h]; have := h.b0; have := h.b1; have := h.b2; unfold valA; simp only [SE.den, arAdd, arMul, arRem, IntKind.wrap_u64, IntKind.wrap_i64, clI, tmod_pos (show 0 ≤ E.i 0 by omega)]; exact decide_eq_false (by simp only [Decidable.not_not]; (repeat' split) <;> omega)
  · rw [d8 h]; have := h.b3; exact decide_eq_false (by omega)
  · rw [d13 h]; have := h.b3; exact decide_eq_false (by simp only [clI]; (repeat' split) <;> omega)
  · rw [d12 h]; have := h.b3; exact decide_eq_false (by simp only [clI]; (repeat' split) <;> omega)
  · rw [d11 h]; have := h.b3; exact decide_eq_true (by omega)
  · rw [d24 h]; have := h.b3; exact decide_eq_true (by omega)
  · rw [d25 h]; have := h.b3; exact decide_eq_false (by omega)
theorem h76 (h : BdI E) (hL : 0 < E.i 0 ∧ E.i 0 < 1099511627776) (hC : E.i 1 < 0) (hN : 0 ≤ E.i 2 ∧ E.i 2 ≤ 4) (hQ : E.i 3 / 16 % 16 ≤ 1) (hR : E.i 3 % 16 ≤ 4) : FaOk E ⟨fa76, rrI⟩ := by
  refine faOk_of h fun c b hm => ?_
  simp only [fa76, List.mem_cons, List.not_mem_nil, or_false, Prod.mk.injEq] at hm
  rcases hm with ⟨rfl, rfl⟩ | ⟨rfl, rfl⟩ | ⟨rfl, rfl⟩ | ⟨rfl, rfl⟩ | ⟨rfl, rfl⟩ | ⟨rfl, rfl⟩ | ⟨rfl, rfl⟩ | ⟨rfl, rfl⟩ | ⟨rfl, rfl⟩ | ⟨rfl, rfl⟩ | ⟨rfl, rfl⟩ | ⟨rfl, rfl⟩ | ⟨rfl, rfl⟩ | ⟨rfl, rfl⟩ | ⟨rfl, rfl⟩
  · rw [d0 h]; have := h.b3; exact decide_eq_true (by omega)
  · rw [d1 h]; have := h.b3; exact decide_eq_true (by omega)
  · rw [d2 h]; have := h.b3; exact decide_eq_false (by omega)
  · rw [d14 h]; have := h.b3; exact decide_eq_false (by omega)
  · rw [d3 h]; have := h.b3; exact decide_eq_false (by omega)
  · rw [d4 h]; have := h.b3; exact decide_eq_false (by omega)
  · rw [d5 h]; have := h.b3; exact decide_eq_false (by omega)
  · rw [d6 h]; have := h.b3; exact decide_eq_false (by omega)
  · rw [d33 h]; have := h.b0; have := h.b1; have := h.b2; unfold valA; simp only [SE.den, arAdd, arMul, arRem, IntKind.wrap_u64, IntKind.wrap_i64, clI, tmod_pos (show 0 ≤ E.i 0 by omega)]; exact decide_eq_false (by simp only [Decidable.not_not]; (repeat' split) <;> omega)
  · rw [d8 h]; have := h.b3; exact decide_eq_false (by omega)
  · rw [d9 h]; have := h.b3; exact decide_eq_false (by simp only [clI]; (repeat' split) <;> omega)
  · rw [d10 h]; have := h.b3; exact decide_eq_false (by simp only [clI]; (repeat' split) <;> omega)
  · rw [d11 h]; have := h.b3; exact decide_eq_true (by omega)
  · rw [d24 h]; have := h.b3; exact decide_eq_true (by omega)
  · rw [d25 h]; have := h.b3; exact decide_eq_false (by omega)
theorem h77 (h : BdI E) (hL : 0 < E.i 0 ∧ E.i 0 < 1099511627776) (hC : E.i 1 < 0) (hN : 0 ≤ E.i 2 ∧ E.i 2 ≤ 4) (hQ : E.i 3 / 16 % 16 ≤ 1) (hR : 4 < E.i 3 % 16) : FaOk E ⟨fa77, rrI⟩ := by
  refine faOk_of h fun c b hm => ?_
  simp only [fa77, List.mem_cons, List.not_mem_nil, or_false, Prod.mk.injEq] at hm
  rcases hm with ⟨rfl, rfl⟩ | ⟨rfl, rfl⟩ | ⟨rfl, rfl⟩ | ⟨rfl, rfl⟩ | ⟨rfl, rfl⟩ | ⟨rfl, rfl⟩ | ⟨rfl, rfl⟩ | ⟨rfl, rfl⟩ | ⟨rfl, rfl⟩ | ⟨rfl, rfl⟩ | ⟨rfl, rfl⟩ | ⟨rfl, rfl⟩ | ⟨rfl, rfl⟩ | ⟨rfl, rfl⟩ | ⟨rfl, rfl⟩
  · rw [d0 h]; have := h.b3; exact decide_eq_true (by omega)
  · rw [d1 h]; have := h.b3; exact decide_eq_true (by omega)
  · rw [d2 h]; have := h.b3; exact decide_eq_false (by omega)
  · rw [d14 h]; have := h.b3; exact decide_eq_false (by omega)
  · rw [d3 h]; have := h.b3; exact decide_eq_false (by omega)
  · rw [d4 h]; have := h.b3; exact decide_eq_false (by omega)
  · rw [d5 h]; have := h.b3; exact decide_eq_false (by omega)
  · rw [d6 h]; have := h.b3; exact decide_eq_true (by omega)
  · rw [d33 h]; have := h.b0; have := h.b1; have := h.b2; unfold valA; simp only [SE.den, arAdd, arMul, arRem, IntKind.wrap_u64, IntKind.wrap_i64, clI, tmod_pos (show 0 ≤ E.i 0 by omega)]; exact decide_eq_false (by simp only [Decidable.not_not]; (repeat' split) <;> omega)
  · rw [d8 h]; have := h.b3; exact decide_eq_false (by omega)
  · rw [d9 h]; have := h.b3; exact decide_eq_false (by simp only [clI]; (repeat' split) <;> omega)
  · rw [d12 h]; have := h.b3; exact decide_eq_false (by simp only [clI]; (repeat' split) <;> omega)
  · rw [d11 h]; have := h.b3; exact decide_eq_true (by omega)
  · rw [d24 h]; have := h.b3; exact decide_eq_true (by omega)
  · rw [d25 h]; have := h.b3; exact decide_eq_false (by omega)
theorem h78 (h : BdI E) (hL : 0 < E.i 0 ∧ E.i 0 < 1099511627776) (hC : E.i 1 < 0) (hN : 0 ≤ E.i 2 ∧ E.i 2 ≤ 4) (hQ : 1 < E.i 3 / 16 % 16) (hR : E.i 3 % 16 ≤ 4) : FaOk E ⟨fa78, rrI⟩ := by
  refine faOk_of h fun c b hm => ?_
  simp only [fa78, List.mem_cons, List.not_mem_nil, or_false, Prod.mk.injEq] at hm
  rcases hm with ⟨rfl, rfl⟩ | ⟨rfl, rfl⟩ | ⟨rfl, rfl⟩ | ⟨rfl, rfl⟩ | ⟨rfl, rfl⟩ | ⟨rfl, rfl⟩ | ⟨rfl, rfl⟩ | ⟨rfl, rfl⟩ | ⟨rfl, rfl⟩ | ⟨rfl, rfl⟩ | ⟨rfl, rfl⟩ | ⟨rfl, rfl⟩ | ⟨rfl, rfl⟩ | ⟨rfl, rfl⟩ | ⟨rfl, rfl⟩
  · rw [d0 h]; have := h.b3; exact decide_eq_true (by omega)
  · rw [d1 h]; have := h.b3; exact decide_eq_true (by omega)
  · rw [d2 h]; have := h.b3; exact decide_eq_false (by omega)
  · rw [d14 h]; have := h.b3; exact decide_eq_false (by omega)
  · rw [d3 h]; have := h.b3; exact decide_eq_false (by omega)
  · rw [d4 h]; have := h.b3; exact decide_eq_true (by omega)
  · rw [d5 h]; have := h.b3; exact decide_eq_false (by omega)
  · rw [d6 h]; have := h.b3; exact decide_eq_false (by omega)
  · rw [d33 h]; have := h.b0; have := h.b1; have := h.b2; unfold valA; simp only [SE.den, arAdd, arMul, arRem, IntKind.wrap_u64, IntKind.wrap_i64, clI, tmod_pos (show 0 ≤ E.i 0 by omega)]; exact decide_eq_false (by simp only [Decidable.not_not]; (repeat' split) <;> omega)
  · rw [d8 h]; have := h.b3; exact decide_eq_false (by omega)
  · rw [d13 h]; have := h.b3; exact decide_eq_false (by simp only [clI]; (repeat' split) <;> omega)
  · rw [d10 h]; have := h.b3; exact decide_eq_false (by simp only [clI]; (repeat' split) <;> omega)
  · rw [d11 h]; have := h.b3; exact decide_eq_true (by omega)
  · rw [d24 h]; have := h.b3; exact decide_eq_true (by omega)
  · rw [d25 h]; have := h.b3; exact decide_eq_false (by omega)
theorem h79 (h : BdI E) (hL : 0 < E.i 0 ∧ E.i 0 < 1099511627776) (hC : E.i 1 < 0) (hN : 0 ≤ E.i 2 ∧ E.i 2 ≤ 4) (hQ : 1 < E.i 3 / 16 % 16) (hR : 4 < E.i 3 % 16) : FaOk E ⟨fa79, rrI⟩ := by
  refine faOk_of h fun c b hm => ?_
  simp only [fa79, List.mem_cons, List.not_mem_nil, or_false, Prod.mk.injEq] at hm
  rcases hm with ⟨rfl, rfl⟩ | ⟨rfl, rfl⟩ | ⟨rfl, rfl⟩ | ⟨rfl, rfl⟩ | ⟨rfl, rfl⟩ | ⟨rfl, rfl⟩ | ⟨rfl, rfl⟩ | ⟨rfl, rfl⟩ | ⟨rfl, rfl⟩ | ⟨rfl, rfl⟩ | ⟨rfl, rfl⟩ | ⟨rfl, rfl⟩ | ⟨rfl, rfl⟩ | ⟨rfl, rfl⟩ | ⟨rfl, rfl⟩
  · rw [d0 h]; have := h.b3; exact decide_eq_true (by omega)
  · rw [d1 h]; have := h.b3; exact decide_eq_true (by omega)
  · rw [d2 h]; have := h.b3; exact decide_eq_false (by omega)
  · rw [d14 h]; have := h.b3; exact decide_eq_false (by omega)
  · rw [d3 h]; have := h.b3; exact decide_eq_false (by omega)
  · rw [d4 h]; have := h.b3; exact decide_eq_true (by omega)
  · rw [d5 h]; have := h.b3; exact decide_eq_false (by omega)
  · rw [d6 h]; have := h.b3; exact decide_eq_true (by omega)
  · rw [d33 h]; have := h.b0; have := h.b1; have := h.b2; unfold valA; simp only [SE.den, arAdd, arMul, arRem, IntKind.wrap_u64, IntKind.wrap_i64, clI, tmod_pos (show 0 ≤ E.i 0 by omega)]; exact decide_eq_false (by simp only [Decidable.not_not]; (repeat' split) <;> omega)
  · rw [d8 h]; have := h.b3; exact decide_eq_false (by omega)
  · rw [d13 h]; have := h.b3; exact decide_eq_false (by simp only [clI]; (repeat' split) <;> omega)
  · rw [d12 h]; have := h.b3; exact decide_eq_false (by simp only [clI]; (repeat' split) <;> omega)
  · rw [d11 h]; have := h.b3; exact decide_eq_true (by omega)
  · rw [d24 h]; have := h.b3; exact decide_eq_true (by omega)
  · rw [d25 h]; have := h.b3; exact decide_eq_false (by omega)
theorem h80 (h : BdI E) (hL : 0 < E.i 0 ∧ E.i 0 < 1099511627776) (hC : E.i 1 < 0) (hN : 4 < E.i 2) (hQ : E.i 3 / 16 % 16 ≤ 1) (hR : E.i 3 % 16 ≤ 4) : FaOk E ⟨fa80, rrI⟩ := by
  refine faOk_of h fun c b hm => ?_
  simp only [fa80, List.mem_cons, List.not_mem_nil, or_false, Prod.mk.injEq] at hm
  rcases hm with ⟨rfl, rfl⟩ | ⟨rfl, rfl⟩ | ⟨rfl, rfl⟩ | ⟨rfl, rfl⟩ | ⟨rfl, rfl⟩ | ⟨rfl, rfl⟩ | ⟨rfl, rfl⟩ | ⟨rfl, rfl⟩ | ⟨rfl, rfl⟩ | ⟨rfl, rfl⟩ | ⟨rfl, rfl⟩ | ⟨rfl, rfl⟩ | ⟨rfl, rfl⟩ | ⟨rfl, rfl⟩ | ⟨rfl, rfl⟩
  · rw [d0 h]; have := h.b3; exact decide_eq_true (by omega)
  · rw [d1 h]; have := h.b3; exact decide_eq_true (by omega)
  · rw [d2 h]; have := h.b3; exact decide_eq_false (by omega)
  · rw [d14 h]; have := h.b3; exact decide_eq_true (by omega)
  · rw [d3 h]; have := h.b3; exact decide_eq_false (by omega)
  · rw [d4 h]; have := h.b3; exact decide_eq_false (by omega)
  · rw [d5 h]; have := h.b3; exact decide_eq_false (by omega)
  · rw [d6 h]; have := h.b3; exact decide_eq_false (by omega)
  · rw [d34 h]; have := h.b0; have := h.b1; have := h.b2; unfold valA; simp only [SE.den, arAdd, arMul, arRem, IntKind.wrap_u64, IntKind.wrap_i64, clI, tmod_pos (show 0 ≤ E.i 0 by omega)]; exact decide_eq_false (by simp only [Decidable.not_not]; (repeat' split) <;> omega)
  · rw [d8 h]; have := h.b3; exact decide_eq_false (by omega)
  · rw [d9 h]; have := h.b3; exact decide_eq_false (by simp only [clI]; (repeat' split) <;> omega)
  · rw [d10 h]; have := h.b3; exact decide_eq_false (by simp only [clI]; (repeat' split) <;> omega)
  · rw [d11 h]; have := h.b3; exact decide_eq_true (by omega)
  · rw [d24 h]; have := h.b3; exact decide_eq_true (by omega)
  · rw [d25 h]; have := h.b3; exact decide_eq_false (by omega)
theorem h81 (h : BdI E) (hL : 0 < E.i 0 ∧ E.i 0 < 1099511627776) (hC : E.i 1 < 0) (hN : 4 < E.i 2) (hQ : E.i 3 / 16 % 16 ≤ 1) (hR : 4 < E.i 3 % 16) : FaOk E ⟨fa81, rrI⟩ := by
  refine faOk_of h fun c b hm => ?_
  simp only [fa81, List.mem_cons, List.not_mem_nil, or_false, Prod.mk.injEq] at hm
  rcases hm with ⟨rfl, rfl⟩ | ⟨rfl, rfl⟩ | ⟨rfl, rfl⟩ | ⟨rfl, rfl⟩ | ⟨rfl, rfl⟩ | ⟨rfl, rfl⟩ | ⟨rfl, rfl⟩ | ⟨rfl, rfl⟩ | ⟨rfl, rfl⟩ | ⟨rfl, rfl⟩ | ⟨rfl, rfl⟩ | ⟨rfl, rfl⟩ | ⟨rfl, rfl⟩ | ⟨rfl, rfl⟩ | ⟨rfl, rfl⟩
  · rw [d0 h]; have := h.b3; exact decide_eq_true (by omega)
  · rw [d1 h]; have := h.b3; exact decide_eq_true (by omega)
  · rw [d2 h]; have := h.b3; exact decide_eq_false (by omega)
  · rw [d14 h]; have := h.b3; exact decide_eq_true (by omega)
  · rw [d3 h]; have := h.b3; exact decide_eq_false (by omega)
  · rw [d4 h]; have := h.b3; exact decide_eq_false (by omega)
  · rw [d5 h]; have := h.b3; exact decide_eq_false (by omega)
  · rw [d6 h]; have := h.b3; exact decide_eq_true (by omega)
  · rw [d34 h]; have := h.b0; have := h.b1; have := h.b2; unfold valA; simp only [SE.den, arAdd, arMul, arRem, IntKind.wrap_u64, IntKind.wrap_i64, clI, tmod_pos (show 0 ≤ E.i 0 by omega)]; exact decide_eq_false (by simp only [Decidable.not_not]; (repeat' split) <;> omega)
  · rw [d8 h]; have := h.b3; exact decide_eq_false (by omega)
  · rw [d9 h]; have := h.b3; exact decide_eq_false (by simp only [clI]; (repeat' split) <;> omega)
  · rw [d12 h]; have := h.b3; exact decide_eq_false (by simp only [clI]; (repeat' split) <;> omega)
  · rw [d11 h]; have := h.b3; exact decide_eq_true (by omega)
  · rw [d24 h]; have := h.b3; exact decide_eq_true (by omega)
  · rw [d25 h]; have := h.b3; exact decide_eq_false (by omega)
theorem h82 (h : BdI E) (hL : 0 < E.i 0 ∧ E.i 0 < 1099511627776) (hC : E.i 1 < 0) (hN : 4 < E.i 2) (hQ : 1 < E.i 3 / 16 % 16) (hR : E.i 3 % 16 ≤ 4) : FaOk E ⟨fa82, rrI⟩ := by
  refine faOk_of h fun c b hm => ?_
  simp only [fa82, List.mem_cons, List.not_mem_nil, or_false, Prod.mk.injEq] at hm
  rcases hm with ⟨rfl, rfl⟩ | ⟨rfl, rfl⟩ | ⟨rfl, rfl⟩ | ⟨rfl, rfl⟩ | ⟨rfl, rfl⟩ | ⟨rfl, rfl⟩ | ⟨rfl, rfl⟩ | ⟨rfl, rfl⟩ | ⟨rfl, rfl⟩ | ⟨rfl, rfl⟩ | ⟨rfl, rfl⟩ | ⟨rfl, rfl⟩ | ⟨rfl, rfl⟩ | ⟨rfl, rfl⟩ | ⟨rfl, rfl⟩
  · rw [d0 h]; have := h.b3; exact decide_eq_true (by omega)
  · rw [d1 h]; have := h.b3; exact decide_eq_true (by omega)
  · rw [d2 h]; have := h.b3; exact decide_eq_false (by omega)
  · rw [d14 h]; have := h.b3; exact decide_eq_true (by omega)
  · rw [d3 h]; have := h.b3; exact decide_eq_false (by omega)
  · rw [d4 h]; have := h.b3; exact decide_eq_true (by omega)
  · rw [d5 h]; have := h.b3; exact decide_eq_false (by omega)
  · rw [d6 h]; have := h.b3; exact decide_eq_false (by omega)
  · rw [d34 h]; have := h.b0; have := h.b1; have := h.b2; unfold valA; simp only [SE.den, arAdd, arMul, arRem, IntKind.wrap_u64, IntKind.wrap_i64, clI, tmod_pos (show 0 ≤ E.i 0 by omega)]; exact decide_eq_false (by simp only [Decidable.not_not]; (repeat' split) <;> omega)
  · rw [d8 h]; have := h.b3; exact decide_eq_false (by omega)
  · rw [d13 h]; have := h.b3; exact decide_eq_false (by simp only [clI]; (repeat' split) <;> omega)
  · rw [d10 h]; have := h.b3; exact decide_eq_false (by simp only [clI]; (repeat' split) <;> omega)
  · rw [d11 h]; have := h.b3; exact decide_eq_true (by omega)
  · rw [d24 h]; have := h.b3; exact decide_eq_true (by omega)
  · rw [d25 h]; have := h.b3; exact decide_eq_false (by omega)
theorem h83 (h : BdI E) (hL : 0 < E.i 0 ∧ E.i 0 < 1099511627776) (hC : E.i 1 < 0) (hN : 4 < E.i 2) (hQ : 1 < E.i 3 / 16 % 16) (hR : 4 < E.i 3 % 16) : FaOk E ⟨fa83, rrI⟩ := by
  refine faOk_of h fun c b hm => ?_
  simp only [fa83, List.mem_cons, List.not_mem_nil, or_false, Prod.mk.injEq] at hm
  rcases hm with ⟨rfl, rfl⟩ | ⟨rfl, rfl⟩ | ⟨rfl, rfl⟩ | ⟨rfl, rfl⟩ | ⟨rfl, rfl⟩ | ⟨rfl, rfl⟩ | ⟨rfl, rfl⟩ | ⟨rfl, rfl⟩ | ⟨rfl, rfl⟩ | ⟨rfl, rfl⟩ | ⟨rfl, rfl⟩ | ⟨rfl, rfl⟩ | ⟨rfl, rfl⟩ | ⟨rfl, rfl⟩ | ⟨rfl, rfl⟩
  · rw [d0 h]; have := h.b3; exact decide_eq_true (by omega)
  · rw [d1 h]; have := h.b3; exact decide_eq_true (by omega)
  · rw [d2 h]; have := h.b3; exact decide_eq_false (by omega)
  · rw [d14 h]; have := h.b3; exact decide_eq_true (by omega)
  · rw [d3 h]; have := h.b3; exact decide_eq_false (by omega)
  · rw [d4 h]; have := h.b3; exact decide_eq_true (by omega)
  · rw [d5 h]; have := h.b3; exact decide_eq_false (by omega)
  · rw [d6 h]; have := h.b3; exact decide_eq_true (by omega)
  · rw [d34 h]; have := h.b0; have := h.b1; have := h.b2; unfold valA; simp only [SE.den, arAdd, arMul, arRem, IntKind.wrap_u64, IntKind.wrap_i64, clI, tmod_pos (show 0 ≤ E.i 0 by omega)]; exact decide_eq_false (by simp only [Decidable.not_not]; (repeat' split) <;> omega)
  · rw [d8 h]; have := h.b3; exact decide_eq_false (by omega)
  · rw [d13 h]; have := h.b3; exact decide_eq_false (by simp only [clI]; (repeat' split) <;> omega)
  · rw [d12 h]; have := h.b3; exact decide_eq_false (by simp only [clI]; (repeat' split) <;> omega)
  · rw [d11 h]; have := h.b3; exact decide_eq_true (by omega)
  · rw [d24 h]; have := h.b3; exact decide_eq_true (by omega)
  · rw [d25 h]; have := h.b3; exact decide_eq_false (by omega)
theorem h84 (h : BdI E) (hL : 0 < E.i 0 ∧ E.i 0 < 1099511627776) (hC : 0 ≤ E.i 1 ∧ E.i 1 ≤ 1) (hN : E.i 2 < 0) (hQ : E.i 3 / 16 % 16 ≤ 1) (hR : E.i 3 % 16 ≤ 4) : FaOk E ⟨fa84, rrI⟩ := by
  refine faOk_of h fun c b hm => ?_
  simp only [fa84, List.mem_cons, List.not_mem_nil, or_false, Prod.mk.injEq] at hm
  rcases hm with ⟨rfl, rfl⟩ | ⟨rfl, rfl⟩ | ⟨rfl, rfl⟩ | ⟨rfl, rfl⟩ | ⟨rfl, rfl⟩ | ⟨rfl, rfl⟩ | ⟨rfl, rfl⟩ | ⟨rfl, rfl⟩ | ⟨rfl, rfl⟩ | ⟨rfl, rfl⟩ | ⟨rfl, rfl⟩ | ⟨rfl, rfl⟩ | ⟨rfl, rfl⟩ | ⟨rfl, rfl⟩ | ⟨rfl, rfl⟩ | ⟨rfl, rfl⟩ | ⟨rfl, rfl⟩
  · rw [d0 h]; have := h.b3; exact decide_eq_true (by omega)
  · rw [d1 h]; have := h.b3; exact decide_eq_false (by omega)
  · rw [d17 h]; have := h.b3; exact decide_eq_false (by omega)
  · rw [d2 h]; have := h.b3; exact decide_eq_true (by omega)
  · rw [d3 h]; have := h.b3; exact decide_eq_false (by omega)
  · rw [d4 h]; have := h.b3; exact decide_eq_false (by omega)
  · rw [d5 h]; have := h.b3; exact decide_eq_false (by omega)
  · rw [d6 h]; have := h.b3; exact decide_eq_false (by omega)
  · rw [d35 h]; have := h.b0; have := h.b1; have := h.b2; unfold valA; simp only [SE.den, arAdd, arMul, arRem, IntKind.wrap_u64, IntKind.wrap_i64, clI, tmod_pos (show 0 ≤ E.i 0 by omega)]; exact decide_eq_false (by simp only [Decidable.not_not]; (repeat' split) <;> omega)
  · rw [d8 h]; have := h.b3; exact decide_eq_false (by omega)
  · rw [d9 h]; have := h.b3; exact decide_eq_false (by simp only [clI]; (repeat' split) <;> omega)
  · rw [d10 h]; have := h.b3; exact decide_eq_false (by simp only [clI]; (repeat' split) <;> omega)
  · rw [d11 h]; have := h.b3; exact decide_eq_true (by omega)
  · rw [d24 h]; have := h.b3; exact decide_eq_true (by omega)
  · rw [d25 h]; have := h.b3; exact decide_eq_true (by omega)
  · rw [d26 h]; have := h.b3; exact decide_eq_true (by omega)
  · rw [d27 h]; have := h.b3; exact decide_eq_false (by omega)
theorem h85 (h : BdI E) (hL : 0 < E.i 0 ∧ E.i 0 < 1099511627776) (hC : 0 ≤ E.i 1 ∧ E.i 1 ≤ 1) (hN : E.i 2 < 0) (hQ : E.i 3 / 16 % 16 ≤ 1) (hR : 4 < E.i 3 % 16) : FaOk E ⟨fa85, rrI⟩ := by
  refine faOk_of h fun c b hm => ?_
  simp only [fa85, List.mem_cons, List.not_mem_nil, or_false, Prod.mk.injEq] at hm
  rcases hm with ⟨rfl, rfl⟩ | ⟨rfl, rfl⟩ | ⟨rfl, rfl⟩ | ⟨rfl, rfl⟩ | ⟨rfl, rfl⟩ | ⟨rfl, rfl⟩ | ⟨rfl, rfl⟩ | ⟨rfl, rfl⟩ | ⟨rfl, rfl⟩ | ⟨rfl, rfl⟩ | ⟨rfl, rfl⟩ | ⟨rfl, rfl⟩ | ⟨rfl, rfl⟩ | ⟨rfl, rfl⟩ | ⟨rfl, rfl⟩ | ⟨rfl, rfl⟩ | ⟨rfl, rfl⟩
  · rw [d0 h]; have := h.b3; exact decide_eq_true (by omega)
  · rw [d1 h]; have := h.b3; exact decide_eq_false (by omega)
  · rw [d17 h]; have := h.b3; exact decide_eq_false (by omega)
  · rw [d2 h]; have := h.b3; exact decide_eq_true (by omega)
  · rw [d3 h]; have := h.b3; exact decide_eq_false (by omega)
  · rw [d4 h]; have := h.b3; exact decide_eq_false (by omega)
  · rw [d5 h]; have := h.b3; exact decide_eq_false (by omega)
  · rw [d6 h]; have := h.b3; exact decide_eq_true (by omega)
  · rw [d35 h]; have := h.b0; have := h.b1; have := h.b2; unfold valA; simp only [SE.den, arAdd, arMul, arRem, IntKind.wrap_u64, IntKind.wrap_i64, clI, tmod_pos (show 0 ≤ E.i 0 by omega)]; exact decide_eq_false (by simp only [Decidable.not_not]; (repeat' split) <;> omega)
  · rw [d8 h]; have := h.b3; exact decide_eq_false (by omega)
  · rw [d9 h]; have := h.b3; exact decide_eq_false (by simp only [clI]; (repeat' split) <;> omega)
  · rw [d12 h]; have := h.b3; exact decide_eq_false (by simp only [clI]; (repeat' split) <;> omega)
  · rw [d11 h]; have := h.b3; exact decide_eq_true (by omega)
  · rw [d24 h]; have := h.b3; exact decide_eq_true (by omega)
  · rw [d25 h]; have := h.b3; exact decide_eq_true (by omega)
  · rw [d26 h]; have := h.b3; exact decide_eq_true (by omega)
  · rw [d27 h]; have := h.b3; exact decide_eq_false (by omega)
theorem h86 (h : BdI E) (hL : 0 < E.i 0 ∧ E.i 0 < 1099511627776) (hC : 0 ≤ E.i 1 ∧ E.i 1 ≤ 1) (hN : E.i 2 < 0) (hQ : 1 < E.i 3 / 16 % 16) (hR : E.i 3 % 16 ≤ 4) : FaOk E ⟨fa86, rrI⟩ := by
  refine faOk_of h fun c b hm => ?_
  simp only [fa86, List.mem_cons, List.not_mem_nil, or_false, Prod.mk.injEq] at hm
  rcases hm with ⟨rfl, rfl⟩ | ⟨rfl, rfl⟩ | ⟨rfl, rfl⟩ | ⟨rfl, rfl⟩ | ⟨rfl, rfl⟩ | ⟨rfl, rfl⟩ | ⟨rfl, rfl⟩ | ⟨rfl, rfl⟩ | ⟨rfl, rfl⟩ | ⟨rfl, rfl⟩ | ⟨rfl, rfl⟩ | ⟨rfl, rfl⟩ | ⟨rfl, rfl⟩ | ⟨rfl, rfl⟩ | ⟨rfl, rfl⟩ | ⟨rfl, rfl⟩ | ⟨rfl, rfl⟩
  · rw [d0 h]; have := h.b3; exact decide_eq_true (by omega)
  · rw [d1 h]; have := h.b3; exact decide_eq_false (by omega)
  · rw [d17 h]; have := h.b3; exact decide_eq_false (by omega)
  · rw [d2 h]; have := h.b3; exact decide_eq_true (by omega)
  · rw [d3 h]; have := h.b3; exact decide_eq_false (by omega)
  · rw [d4 h]; have := h.b3; exact decide_eq_true (by omega)
  · rw [d5 h]; have := h.b3; exact decide_eq_false (by omega)
  · rw [d6 h]; have := h.b3; exact decide_eq_false (by omega)
  · rw [d35 h]; have := h.b0; have := h.b1; have := h.b2; unfold valA; simp only [SE.den, arAdd, arMul, arRem, IntKind.wrap_u64, IntKind.wrap_i64, clI, tmod_pos (show 0 ≤ E.i 0 by omega)]; exact decide_eq_false (by simp only [Decidable.not_not]; (repeat' split) <;> omega)
  · rw [d8 h]; have := h.b3; exact decide_eq_false (by omega)
  · rw [d13 h]; have := h.b3; exact decide_eq_false (by simp only [clI]; (repeat' split) <;> omega)
  · rw [d10 h]; have := h.b3; exact decide_eq_false (by simp only [clI]; (repeat' split) <;> omega)
  · rw [d11 h]; have := h.b3; exact decide_eq_true (by omega)
  · rw [d24 h]; have := h.b3; exact decide_eq_true (by omega)
  · rw [d25 h]; have := h.b3; exact decide_eq_true (by omega)
  · rw [d26 h]; have := h.b3; exact decide_eq_true (by omega)
  · rw [d27 h]; have := h.b3; exact decide_eq_false (by omega)
theorem h87 (h : BdI E) (hL : 0 < E.i 0 ∧ E.i 0 < 1099511627776) (hC : 0 ≤ E.i 1 ∧ E.i 1 ≤ 1) (hN : E.i 2 < 0) (hQ : 1 < E.i 3 / 16 % 16) (hR : 4 < E.i 3 % 16) : FaOk E ⟨fa87, rrI⟩ := by
  refine faOk_of h fun c b hm => ?_
  simp only [fa87, List.mem_cons, List.not_mem_nil, or_false, Prod.mk.injEq] at hm
  rcases hm with ⟨rfl, rfl⟩ | ⟨rfl, rfl⟩ | ⟨rfl, rfl⟩ | ⟨rfl, rfl⟩ | ⟨rfl, rfl⟩ | ⟨rfl, rfl⟩ | ⟨rfl, rfl⟩ | ⟨rfl, rfl⟩ | ⟨rfl, rfl⟩ | ⟨rfl, rfl⟩ | ⟨rfl, rfl⟩ | ⟨rfl, rfl⟩ | ⟨rfl, rfl⟩ | ⟨rfl, rfl⟩ | ⟨rfl, rfl⟩ | ⟨rfl, rfl⟩ | ⟨rfl, rfl⟩
  · rw [d0 h]; have := h.b3; exact decide_eq_true (by omega)
  · rw [d1 h]; have := h.b3; exact decide_eq_false (by omega)
  · rw [d17 h]; have := h.b3; exact decide_eq_false (by omega)
  · rw [d2 h]; have := h.b3; exact decide_eq_true (by omega)
  · rw [d3 h]; have := h.b3; exact decide_eq_false (by omega)
  · rw [d4 h]; have := h.b3; exact decide_eq_true (by omega)
  · rw [d5 h]; have := h.b3; exact decide_eq_false (by omega)
  · rw [d6 h]; have := h.b3; exact decide_eq_true (by omega)
  · rw [d35 h]; have := h.b0; have := h.b1; have := h.b2; unfold valA; simp only [SE.den, arAdd, arMul, arRem, IntKind.wrap_u64, IntKind.wrap_i64, clI, tmod_pos (show 0 ≤ E.i 0 by omega)]; exact decide_eq_false (by simp only [Decidable.not_not]; (repeat' split) <;> omega)
  · rw [d8 h]; have := h.b3; exact decide_eq_false (by omega)
  · rw [d13 h]; have := h.b3; exact decide_eq_false (by simp only [clI]; (repeat' split) <;> omega)
  · rw [d12 h]; have := h.b3; exact decide_eq_false (by simp only [clI]; (repeat' split) <;> omega)
  · rw [d11 h]; have := h.b3; exact decide_eq_true (by omega)
  · rw [d24 h]; have := h.b3; exact decide_eq_true (by omega)
  · rw [d25 h]; have := h.b3; exact decide_eq_true (by omega)
  · rw [d26 h]; have := h.b3; exact decide_eq_true (by omega)
  · rw [d27 h]; have := h.b3; exact decide_eq_false (by omega)
theorem h88 (h : BdI E) (hL : 0 < E.i 0 ∧ E.i 0 < 1099511627776) (hC : 0 ≤ E.i 1 ∧ E.i 1 ≤ 1) (hN : 0 ≤ E.i 2 ∧ E.i 2 ≤ 4) (hQ : E.i 3 / 16 % 16 ≤ 1) (hR : E.i 3 % 16 ≤ 4) : FaOk E ⟨fa88, rrI⟩ := by
  refine faOk_of h fun c b hm => ?_
  simp only [fa88, List.mem_cons, List.not_mem_nil, or_false, Prod.mk.injEq] at hm
  rcases hm with ⟨rfl, rfl⟩ | ⟨rfl, rfl⟩ | ⟨rfl, rfl⟩ | ⟨rfl, rfl⟩ | ⟨rfl, rfl⟩ | ⟨rfl, rfl⟩ | ⟨rfl, rfl⟩ | ⟨rfl, rfl⟩ | ⟨rfl, rfl⟩ | ⟨rfl, rfl⟩ | ⟨rfl, rfl⟩ | ⟨rfl, rfl⟩ | ⟨rfl, rfl⟩ | ⟨rfl, rfl⟩ | ⟨rfl, rfl⟩ | ⟨rfl, rfl⟩ | ⟨rfl, rfl⟩ | ⟨rfl, rfl⟩ | ⟨rfl, rfl⟩ | ⟨rfl, rfl⟩ | ⟨rfl, rfl⟩ | ⟨rfl, rfl⟩
  · rw [d0 h]; have := h.b3; exact decide_eq_true (by omega)
  · rw [d1 h]; have := h.b3; exact decide_eq_false (by omega)
  · rw [d17 h]; have := h.b3; exact decide_eq_false (by omega)
  · rw [d2 h]; have := h.b3; exact decide_eq_false (by omega)
  · rw [d14 h]; have := h.b3; exact decide_eq_false (by omega)
  · rw [d3 h]; have := h.b3; exact decide_eq_false (by omega)
  · rw [d4 h]; have := h.b3; exact decide_eq_false (by omega)
  · rw [d5 h]; have := h.b3; exact decide_eq_false (by omega)
  · rw [d6 h]; have := h.b3; exact decide_eq_false (by omega)
  · rw [d36 h]; have := h.b0; have := h.b1; have := h.b2; unfold valA; simp only [SE.den, arAdd, arMul, arRem, IntKind.wrap_u64, IntKind.wrap_i64, clI, tmod_pos (show 0 ≤ E.i 0 by omega)]; exact decide_eq_false (by simp only [Decidable.not_not]; (repeat' split) <;> omega)
  · rw [d8 h]; have := h.b3; exact decide_eq_false (by omega)
  · rw [d9 h]; have := h.b3; exact decide_eq_false (by simp only [clI]; (repeat' split) <;> omega)
  · rw [d10 h]; have := h.b3; exact decide_eq_false (by simp only [clI]; (repeat' split) <;> omega)
  · rw [d11 h]; have := h.b3; exact decide_eq_true (by omega)
  · rw [d24 h]; have := h.b3; exact decide_eq_true (by omega)
  · rw [d25 h]; have := h.b3; exact decide_eq_true (by omega)
  · rw [d26 h]; have := h.b3; exact decide_eq_true (by omega)
  · rw [d27 h]; have := h.b3; exact decide_eq_true (by omega)
  · rw [d28 h]; have := h.b3; exact decide_eq_true (by omega)
  · rw [d29 h]; have := h.b3; exact decide_eq_true (by unfold valA clI at *; (repeat' split) <;> omega)
  · rw [d30 h]; have := h.b3; exact decide_eq_true (by unfold valA clI at *; (repeat' split) <;> omega)
  · rw [d31 h]; have := h.b3; exact decide_eq_true (by unfold valA clI at *; (repeat' split) <;> omega)
theorem h89 (h : BdI E) (hL : 0 < E.i 0 ∧ E.i 0 < 1099511627776) (hC : 0 ≤ E.i 1 ∧ E.i 1 ≤ 1) (hN : 0 ≤ E.i 2 ∧ E.i 2 ≤ 4) (hQ : E.i 3 / 16 % 16 ≤ 1) (hR : 4 < E.i 3 % 16) : FaOk E ⟨fa89, rrI⟩ := by
  refine faOk_of h fun c b hm => ?_
  simp only [fa89, List.mem_cons, List.not_mem_nil, or_false, Prod.mk.injEq] at hm
  rcases hm with ⟨rfl, rfl⟩ | ⟨rfl, rfl⟩ | ⟨rfl, rfl⟩ | ⟨rfl, rfl⟩ | ⟨rfl, rfl⟩ | ⟨rfl, rfl⟩ | ⟨rfl, rfl⟩ | ⟨rfl, rfl⟩ | ⟨rfl, rfl⟩ | ⟨rfl, rfl⟩ | ⟨rfl, rfl⟩ | ⟨rfl, rfl⟩ | ⟨rfl, rfl⟩ | ⟨rfl, rfl⟩ | ⟨rfl, rfl⟩ | ⟨rfl, rfl⟩ | ⟨rfl, rfl⟩ | ⟨rfl, rfl⟩ | ⟨rfl, rfl⟩ | ⟨rfl, rfl⟩ | ⟨rfl, rfl⟩ | ⟨rfl, rfl⟩
  · rw [d0 h]; have := h.b3; exact decide_eq_true (by omega)
  · rw [d1 h]; have := h.b3; exact decide_eq_false (by omega)
  · rw [d17 h]; have := h.b3; exact decide_eq_false (by omega)
  · rw [d2 h]; have := h.b3; exact decide_eq_false (by omega)
  · rw [d14 h]; have := h.b3; exact decide_eq_false (by omega)
  · rw [d3 h]; have := h.b3; exact decide_eq_false (by omega)
  · rw [d4 h]; have := h.b3; exact decide_eq_false (by omega)
  · rw [d5 h]; have := h.b3; exact decide_eq_false (by omega)
  · rw [d6 h]; have := h.b3; exact decide_eq_true (by omega)
  · rw [d36 h]; have := h.b0; have := h.b1; have := h.b2; unfold valA; simp only [SE.den, arAdd, arMul, arRem, IntKind.wrap_u64, IntKind.wrap_i64, clI, tmod_pos (show 0 ≤ E.i 0 by omega)]; exact decide_eq_false (by simp only [Decidable.not_not]; (repeat' split) <;> omega)
  · rw [d8 h]; have := h.b3; exact decide_eq_false (by omega)
  · rw [d9 h]; have := h.b3; exact decide_eq_false (by simp only [clI]; (repeat' split) <;> omega)
  · rw [d12 h]; have := h.b3; exact decide_eq_false (by simp only [clI]; (repeat' split) <;> omega)
  · rw [d11 h]; have := h.b3; exact decide_eq_true (by omega)
  · rw [d24 h]; have := h.b3; exact decide_eq_true (by omega)
  · rw [d25 h]; have := h.b3; exact decide_eq_true (by omega)
  · rw [d26 h]; have := h.b3; exact decide_eq_true (by omega)
  · rw [d27 h]; have := h.b3; exact decide_eq_true (by omega)
  · rw [d28 h]; have := h.b3; exact decide_eq_true (by omega)
  · rw [d29 h]; have := h.b3; exact decide_eq_true (by unfold valA clI at *; (repeat' split) <;> omega)
  · rw [d30 h]; have := h.b3; exact decide_eq_true (by unfold valA clI at *; (repeat' split) <;> omega)
  · rw [d31 h]; have := h.b3; exact decide_eq_true (by unfold valA clI at *; (repeat' split) <;> omega)
theorem h90 (h : BdI E) (hL : 0 < E.i 0 ∧ E.i 0 < 1099511627776) (hC : 0 ≤ E.i 1 ∧ E.i 1 ≤ 1) (hN : 0 ≤ E.i 2 ∧ E.i 2 ≤ 4) (hQ : 1 < E.i 3 / 16 % 16) (hR : E.i 3 % 16 ≤ 4) : FaOk E ⟨fa90, rrI⟩ := by
  refine faOk_of h fun c b hm => ?_
  simp only [fa90, List.mem_cons, List.not_mem_nil, or_false, Prod.mk.injEq] at hm
  rcases hm with ⟨rfl, rfl⟩ | ⟨rfl, rfl⟩ | ⟨rfl, rfl⟩ | ⟨rfl, rfl⟩ | ⟨rfl, rfl⟩ | ⟨rfl, rfl⟩ | ⟨rfl, rfl⟩ | ⟨rfl, rfl⟩ | ⟨rfl, rfl⟩ | ⟨rfl, rfl⟩ | ⟨rfl, rfl⟩ | ⟨rfl, rfl⟩ | ⟨rfl, rfl⟩ | ⟨rfl, rfl⟩ | ⟨rfl, rfl⟩ | ⟨rfl, rfl⟩ | ⟨rfl, rfl⟩ | ⟨rfl, rfl⟩ | ⟨rfl, rfl⟩ | ⟨rfl, rfl⟩ | ⟨rfl, rfl⟩ | ⟨rfl, rfl⟩
  · rw [d0 h]; have := h.b3; exact decide_eq_true (by omega)
  · rw [d1 h]; have := h.b3; exact decide_eq_false (by omega)
  · rw [d17 h]; have := h.b3; exact decide_eq_false (by omega)
  · rw [d2 h]; have := h.b3; exact decide_eq_false (by omega)
  · rw [d14 h]; have := h.b3; exact decide_eq_false (by omega)
  · rw [d3 h]; have := h.b3; exact decide_eq_false (by omega)
  · rw [d4 h]; have := h.b3; exact decide_eq_true (by omega)
  · rw [d5 h]; have := h.b3; exact decide_eq_false (by omega)
  · rw [d6 h]; have := h.b3; exact decide_eq_false (by omega)
  · rw [d36 h]; have := h.b0; have := h.b1; have := h.b2; unfold valA; simp only [SE.den, arAdd, arMul, arRem, IntKind.wrap_u64, IntKind.wrap_i64, clI, tmod_pos (show 0 ≤ E.i 0 by omega)]; exact decide_eq_false (by simp only [Decidable.not_not]; (repeat' split) <;> omega)
  · rw [d8 h]; have := h.b3; exact decide_eq_false (by omega)
  · rw [d13 h]; have := h.b3; exact decide_eq_false (by simp only [clI]; (repeat' split) <;> omega)
  · rw [d10 h]; have := h.b3; exact decide_eq_false (by simp only [clI]; (repeat' split) <;> omega)
  · rw [d11 h]; have := h.b3; exact decide_eq_true (by omega)
  · rw [d24 h]; have := h.b3; exact decide_eq_true (by omega)
  · rw [d25 h]; have := h.b3; exact decide_eq_true (by omega)
  · rw [d26 h]; have := h.b3; exact decide_eq_true (by omega)
  · rw [d27 h]; have := h.b3; exact decide_eq_true (by omega)
  · rw [d28 h]; have := h.b3; exact decide_eq_true (by omega)
  · rw [d29 h]; have := h.b3; exact decide_eq_true (by unfold valA clI at *; (repeat' split) <;> omega)
  · rw [d30 h]; have := h.b3; exact decide_eq_true (by unfold valA clI at *; (repeat' split) <;> omega)
  · rw [d31 h]; have := h.b3; exact decide_eq_true (by unfold valA clI at *; (repeat' split) <;> omega)
theorem h91 (h : BdI E) (hL : 0 < E.i 0 ∧ E.i 0 < 1099511627776) (hC : 0 ≤ E.i 1 ∧ E.i 1 ≤ 1) (hN : 0 ≤ E.i 2 ∧ E.i 2 ≤ 4) (hQ : 1 < E.i 3 / 16 % 16) (hR : 4 < E.i 3 % 16) : FaOk E ⟨fa91, rrI⟩ := by
  refine faOk_of h fun c b hm => ?_
  simp only [fa91, List.mem_cons, List.not_mem_nil, or_false, Prod.mk.injEq] at hm
  rcases hm with ⟨rfl, rfl⟩ | ⟨rfl, rfl⟩ | ⟨rfl, rfl⟩ | ⟨rfl, rfl⟩ | ⟨rfl, rfl⟩ | ⟨rfl, rfl⟩ | ⟨rfl, rfl⟩ | ⟨rfl, rfl⟩ | ⟨rfl, rfl⟩ | ⟨rfl, rfl⟩ | ⟨rfl, rfl⟩ | ⟨rfl, rfl⟩ | ⟨rfl, rfl⟩ | ⟨rfl, rfl⟩ | ⟨rfl, rfl⟩ | ⟨rfl, rfl⟩ | ⟨rfl, rfl⟩ | ⟨rfl, rfl⟩ | ⟨rfl, rfl⟩ | ⟨rfl, rfl⟩ | ⟨rfl, rfl⟩ | ⟨rfl, rfl⟩
  · rw [d0 h]; have := h.b3; exact decide_eq_true (by omega)
  · rw [d1 h]; have := h.b3; exact decide_eq_false (by omega)
  · rw [d17 h]; have := h.b3; exact decide_eq_false (by omega)
  · rw [d2 h]; have := h.b3; exact decide_eq_false (by omega)
  · rw [d14 h]; have := h.b3; exact decide_eq_false (by omega)
  · rw [d3 h]; have := h.b3; exact decide_eq_false (by omega)
  · rw [d4 h]; have := h.b3; exact decide_eq_true (by omega)
  · rw [d5 h]; have := h.b3; exact decide_eq_false (by omega)
  · rw [d6 h]; have := h.b3; exact decide_eq_true (by omega)
  · rw [d36 h]; have := h.b0; have := h.b1; have := h.b2; unfold valA; simp only [SE.den, arAdd, arMul, arRem, IntKind.wrap_u64, IntKind.wrap_i64, clI, tmod_pos (show 0 ≤ E.i 0 by omega)]; exact decide_eq_false (by simp only [Decidable.not_not]; (repeat' split) <;> omega)
  · rw [d8 h]; have := h.b3; exact decide_eq_false (by omega)
  · rw [d13 h]; have := h.b3; exact decide_eq_false (by simp only [clI]; (repeat' split) <;> omega)
  · rw [d12 h]; have := h.b3; exact decide_eq_false (by simp only [clI]; (repeat' split) <;> omega)
  · rw [d11 h]; have := h.b3; exact decide_eq_true (by omega)
  · rw [d24 h]; have := h.b3; exact decide_eq_true (by omega)
  · rw [d25 h]; have := h.b3; exact decide_eq_true (by omega)
  · rw [d26 h]; have := h.b3; exact decide_eq_true (by omega)
  · rw [d27 h]; have := h.b3; exact decide_eq_true (by omega)
  · rw [d28 h]; have := h.b3; exact decide_eq_true (by omega)
  · rw [d29 h]; have := h.b3; exact decide_eq_true (by unfold valA clI at *; (repeat' split) <;> omega)
  · rw [d30 h]; have := h.b3; exact decide_eq_true (by unfold valA clI at *; (repeat' split) <;> omega)
  · rw [d31 h]; have := h.b3; exact decide_eq_true (by unfold valA clI at *; (repeat' split) <;> omega)
theorem h92 (h : BdI E) (hL : 0 < E.i 0 ∧ E.i 0 < 1099511627776) (hC : 0 ≤ E.i 1 ∧ E.i 1 ≤ 1) (hN : 4 < E.i 2) (hQ : E.i 3 / 16 % 16 ≤ 1) (hR : E.i 3 % 16 ≤ 4) : FaOk E ⟨fa92, rrI⟩ := by
  refine faOk_of h fun c b hm => ?_
  simp only [fa92, List.mem_cons, List.not_mem_nil, or_false, Prod.mk.injEq] at hm
  rcases hm with ⟨rfl, rfl⟩ | ⟨rfl, rfl⟩ | ⟨rfl, rfl⟩ | ⟨rfl, rfl⟩ | ⟨rfl, rfl⟩ | ⟨rfl, rfl⟩ | ⟨rfl, rfl⟩ | ⟨rfl, rfl⟩ | ⟨rfl, rfl⟩ | ⟨rfl, rfl⟩ | ⟨rfl, rfl⟩ | ⟨rfl, rfl⟩ | ⟨rfl, rfl⟩ | ⟨rfl, rfl⟩ | ⟨rfl, rfl⟩ | ⟨rfl, rfl⟩ | ⟨rfl, rfl⟩ | ⟨rfl, rfl⟩ | ⟨rfl, rfl⟩
  · rw [d0 h]; have := h.b3; exact decide_eq_true (by omega)
  · rw [d1 h]; have := h.b3; exact decide_eq_false (by omega)
  · rw [d17 h]; have := h.b3; exact decide_eq_false (by omega)
  · rw [d2 h]; have := h.b3; exact decide_eq_false (by omega)
  · rw [d14 h]; have := h.b3; exact decide_eq_true (by omega)
  · rw [d3 h]; have := h.b3; exact decide_eq_false (by omega)
  · rw [d4 h]; have := h.b3; exact decide_eq_false (by omega)
  · rw [d5 h]; have := h.b3; exact decide_eq_false (by omega)
  · rw [d6 h]; have := h.b3; exact decide_eq_false (by omega)
  · rw [d37 h]; have := h.b0; have := h.b1; have := h.b2; unfold valA; simp only [SE.den, arAdd, arMul, arRem, IntKind.wrap_u64, IntKind.wrap_i64, clI, tmod_pos (show 0 ≤ E.i 0 by omega)]; exact decide_eq_false (by simp only [Decidable.not_not]; (repeat' split) <;> omega)
  · rw [d8 h]; have := h.b3; exact decide_eq_false (by omega)
  · rw [d9 h]; have := h.b3; exact decide_eq_false (by simp only [clI]; (repeat' split) <;> omega)
  · rw [d10 h]; have := h.b3; exact decide_eq_false (by simp only [clI]; (repeat' split) <;> omega)
  · rw [d11 h]; have := h.b3; exact decide_eq_true (by omega)
  · rw [d24 h]; have := h.b3; exact decide_eq_true (by omega)
  · rw [d25 h]; have := h.b3; exact decide_eq_true (by omega)
  · rw [d26 h]; have := h.b3; exact decide_eq_true (by omega)
  · rw [d27 h]; have := h.b3; exact decide_eq_true (by omega)
  · rw [d28 h]; have := h.b3; exact decide_eq_false (by omega)
theorem h93 (h : BdI E) (hL : 0 < E.i 0 ∧ E.i 0 < 1099511627776) (hC : 0 ≤ E.i 1 ∧ E.i 1 ≤ 1) (hN : 4 < E.i 2) (hQ : E.i 3 / 16 % 16 ≤ 1) (hR : 4 < E.i 3 % 16) : FaOk E ⟨fa93, rrI⟩ := by
  refine faOk_of h fun c b hm => ?_
  simp only [fa93, List.mem_cons, List.not_mem_nil, or_false, Prod.mk.injEq] at hm
  rcases hm with ⟨rfl, rfl⟩ | ⟨rfl, rfl⟩ | ⟨rfl, rfl⟩ | ⟨rfl, rfl⟩ | ⟨rfl, rfl⟩ | ⟨rfl, rfl⟩ | ⟨rfl, rfl⟩ | ⟨rfl, rfl⟩ | ⟨rfl, rfl⟩ | ⟨rfl, rfl⟩ | ⟨rfl, rfl⟩ | ⟨rfl, rfl⟩ | ⟨rfl, rfl⟩ | ⟨rfl, rfl⟩ | ⟨rfl, rfl⟩ | ⟨rfl, rfl⟩ | ⟨rfl, rfl⟩ | ⟨rfl, rfl⟩ | ⟨rfl, rfl⟩
  · rw [d0 h]; have := h.b3; exact decide_eq_true (by omega)
  · rw [d1 h]; have := h.b3; exact decide_eq_false (by omega)
  · rw [d17 h]; have := h.b3; exact decide_eq_false (by omega)
  · rw [d2 h]; have := h.b3; exact decide_eq_false (by omega)
  · rw [d14 h]; have := h.b3; exact decide_eq_true (by omega)
  · rw [d3 h]; have := h.b3; exact decide_eq_false (by omega)
  · rw [d4 h]; have := h.b3; exact decide_eq_false (by omega)
  · rw [d5 h]; have := h.b3; exact decide_eq_false (by omega)
  · rw [d6 h]; have := h.b3; exact decide_eq_true (by omega)
  · rw [d37 h]; have := h.b0; have := h.b1; have := h.b2; unfold valA; simp only [SE.den, arAdd, arMul, arRem, IntKind.wrap_u64, IntKind.wrap_i64, clI, tmod_pos (show 0 ≤ E.i 0 by omega)]; exact decide_eq_false (by simp only [Decidable.not_not]; (repeat' split) <;> omega)
  · rw [d8 h]; have := h.b3; exact decide_eq_false (by omega)
  · rw [d9 h]; have := h.b3; exact decide_eq_false (by simp only [clI]; (repeat' split) <;> omega)
  · rw [d12 h]; have := h.b3; exact decide_eq_false (by simp only [clI]; (repeat' split) <;> omega)
  · rw [d11 h]; have := h.b3; exact decide_eq_true (by omega)
  · rw [d24 h]; have := h.b3; exact decide_eq_true (by omega)
  · rw [d25 h]; have := h.b3; exact decide_eq_true (by omega)
  · rw [d26 h]; have := h.b3; exact decide_eq_true (by omega)
  · rw [d27 h]; have := h.b3; exact decide_eq_true (by omega)
  · rw [d28 h]; have := h.b3; exact decide_eq_false (by omega)
theorem h94 (h : BdI E) (hL : 0 < E.i 0 ∧ E.i 0 < 1099511627776) (hC : 0 ≤ E.i 1 ∧ E.i 1 ≤ 1) (hN : 4 < E.i 2) (hQ : 1 < E.i 3 / 16 % 16) (hR : E.i 3 % 16 ≤ 4) : FaOk E ⟨fa94, rrI⟩ := by
  refine faOk_of h fun c b hm => ?_
  simp only [fa94, List.mem_cons, List.not_mem_nil, or_false, Prod.mk.injEq] at hm
  rcases hm with ⟨rfl, rfl⟩ | ⟨rfl, rfl⟩ | ⟨rfl, rfl⟩ | ⟨rfl, rfl⟩ | ⟨rfl, rfl⟩ | ⟨rfl, rfl⟩ | ⟨rfl, rfl⟩ | ⟨rfl, rfl⟩ | ⟨rfl, rfl⟩ | ⟨rfl, rfl⟩ | ⟨rfl, rfl⟩ | ⟨rfl, rfl⟩ | ⟨rfl, rfl⟩ | ⟨rfl, rfl⟩ | ⟨rfl, rfl⟩ | ⟨rfl, rfl⟩ | ⟨rfl, rfl⟩ | ⟨rfl, rfl⟩ | ⟨rfl, rfl⟩
  · rw [d0 h]; have := h.b3; exact decide_eq_true (by omega)
  · rw [d1 h]; have := h.b3; exact decide_eq_false (by omega)
  · rw [d17 h]; have := h.b3; exact decide_eq_false (by omega)
  · rw [d2 h]; have := h.b3; exact decide_eq_false (by omega)
  · rw [d14 h]; have := h.b3; exact decide_eq_true (by omega)
  · rw [d3 h]; have := h.b3; exact decide_eq_false (by omega)
  · rw [d4 h]; have := h.b3; exact decide_eq_true (by omega)
  · rw [d5 h]; have := h.b3; exact decide_eq_false (by omega)
  · rw [d6 h]; have := h.b3; exact decide_eq_false (by omega)
  · rw [d37 h]; have := h.b0; have := h.b1; have := h.b2; unfold valA; simp only [SE.den, arAdd, arMul, arRem, IntKind.wrap_u64, IntKind.wrap_i64, clI, tmod_pos (show 0 ≤ E.i 0 by omega)]; exact decide_eq_false (by simp only [Decidable.not_not]; (repeat' split) <;> omega)
  · rw [d8 h]; have := h.b3; exact decide_eq_false (by omega)
  · rw [d13 h]; have := h.b3; exact decide_eq_false (by simp only [clI]; (repeat' split) <;> omega)
  · rw [d10 h]; have := h.b3; exact decide_eq_false (by simp only [clI]; (repeat' split) <;> omega)
  · rw [d11 h]; have := h.b3; exact decide_eq_true (by omega)
  · rw [d24 h]; have := h.b3; exact decide_eq_true (by omega)
  · rw [d25 h]; have := h.b3; exact decide_eq_true (by omega)
  · rw [d26 h]; have := h.b3; exact decide_eq_true (by omega)
  · rw [d27 h]; have := h.b3; exact decide_eq_true (by omega)
  · rw [d28 h]; have := h.b3; exact decide_eq_false (by omega)
theorem h95 (h : BdI E) (hL : 0 < E.i 0 ∧ E.i 0 < 1099511627776) (hC : 0 ≤ E.i 1 ∧ E.i 1 ≤ 1) (hN : 4 < E.i 2) (hQ : 1 < E.i 3 / 16 % 16) (hR : 4 < E.i 3 % 16) : FaOk E ⟨fa95, rrI⟩ := by
  refine faOk_of h fun c b hm => ?_
  simp only [fa95, List.mem_cons, List.not_mem_nil, or_false, Prod.mk.injEq] at hm
  rcases hm with ⟨rfl, rfl⟩ | ⟨rfl, rfl⟩ | ⟨rfl, rfl⟩ | ⟨rfl, rfl⟩ | ⟨rfl, rfl⟩ | ⟨rfl, rfl⟩ | ⟨rfl, rfl⟩ | ⟨rfl, rfl⟩ | ⟨rfl, rfl⟩ | ⟨rfl, rfl⟩ | ⟨rfl, rfl⟩ | ⟨rfl, rfl⟩ | ⟨rfl, rfl⟩ | ⟨rfl, rfl⟩ | ⟨rfl, rfl⟩ | ⟨rfl, rfl⟩ | ⟨rfl, rfl⟩ | ⟨rfl, rfl⟩ | ⟨rfl, rfl⟩
  · rw [d0 h]; have := h.b3; exact decide_eq_true (by omega)
  · rw [d1 h]; have := h.b3; exact decide_eq_false (by omega)
  · rw [d17 h]; have := h.b3; exact decide_eq_false (by omega)
  · rw [d2 h]; have := h.b3; exact decide_eq_false (by omega)
  · rw [d14 h]; have := h.b3; exact decide_eq_true (by omega)
  · rw [d3 h]; have := h.b3; exact decide_eq_false (by omega)
  · rw [d4 h]; have := h.b3; exact decide_eq_true (by omega)
  · rw [d5 h]; have := h.b3; exact decide_eq_false (by omega)
  · rw [d6 h]; have := h.b3; exact decide_eq_true (by omega)
  · rw [d37 h]; have := h.b0; have := h.b1; have := h.b2; unfold valA; simp only [SE.den, arAdd, arMul, arRem, IntKind.wrap_u64, IntKind.wrap_i64, clI, tmod_pos (show 0 ≤ E.i 0 by omega)]; exact decide_eq_false (by simp only [Decidable.not_not]; (repeat' split) <;> omega)
  · rw [d8 h]; have := h.b3; exact decide_eq_false (by omega)
  · rw [d13 h]; have := h.b3; exact decide_eq_false (by simp only [clI]; (repeat' split) <;> omega)
  · rw [d12 h]; have := h.b3; exact decide_eq_false (by simp only [clI]; (repeat' split) <;> omega)
  · rw [d11 h]; have := h.b3; exact decide_eq_true (by omega)
  · rw [d24 h]; have := h.b3; exact decide_eq_true (by omega)
  · rw [d25 h]; have := h.b3; exact decide_eq_true (by omega)
  · rw [d26 h]; have := h.b3; exact decide_eq_true (by omega)
  · rw [d27 h]; have := h.b3; exact decide_eq_true (by omega)
  · rw [d28 h]; have := h.b3; exact decide_eq_false (by omega)
theorem h96 (h : BdI E) (hL : 0 < E.i 0 ∧ E.i 0 < 1099511627776) (hC : 1 < E.i 1) (hN : E.i 2 < 0) (hQ : E.i 3 / 16 % 16 ≤ 1) (hR : E.i 3 % 16 ≤ 4) : FaOk E ⟨fa96, rrI⟩ := by
  refine faOk_of h fun c b hm => ?_
  simp only [fa96, List.mem_cons, List.not_mem_nil, or_false, Prod.mk.injEq] at hm
  rcases hm with ⟨rfl, rfl⟩ | ⟨rfl, rfl⟩ | ⟨rfl, rfl⟩ | ⟨rfl, rfl⟩ | ⟨rfl, rfl⟩ | ⟨rfl, rfl⟩ | ⟨rfl, rfl⟩ | ⟨rfl, rfl⟩ | ⟨rfl, rfl⟩ | ⟨rfl, rfl⟩ | ⟨rfl, rfl⟩ | ⟨rfl, rfl⟩ | ⟨rfl, rfl⟩ | ⟨rfl, rfl⟩ | ⟨rfl, rfl⟩ | ⟨rfl, rfl⟩
  · rw [d0 h]; have := h.b3; exact decide_eq_true (by omega)
  · rw [d1 h]; have := h.b3; exact decide_eq_false (by omega)
  · rw [d17 h]; have := h.b3; exact decide_eq_true (by omega)
  · rw [d2 h]; have := h.b3; exact decide_eq_true (by omega)
  · rw [d3 h]; have := h.b3; exact decide_eq_false (by omega)
  · rw [d4 h]; have := h.b3; exact decide_eq_false (by omega)
  · rw [d5 h]; have := h.b3; exact decide_eq_false (by omega)
  · rw [d6 h]; have := h.b3; exact decide_eq_false (by omega)
  · rw [d38 h]; have := h.b0; have := h.b1; have := h.b2; unfold valA; simp only [SE.den, arAdd, arMul, arRem, IntKind.wrap_u64, IntKind.wrap_i64, clI, tmod_pos (show 0 ≤ E.i 0 by omega)]; exact decide_eq_false (by simp only [Decidable.not_not]; (repeat' split) <;> omega)
  · rw [d8 h]; have := h.b3; exact decide_eq_false (by omega)
  · rw [d9 h]; have := h.b3; exact decide_eq_false (by simp only [clI]; (repeat' split) <;> omega)
  · rw [d10 h]; have := h.b3; exact decide_eq_false (by simp only [clI]; (repeat' split) <;> omega)
  · rw [d11 h]; have := h.b3; exact decide_eq_true (by omega)
  · rw [d24 h]; have := h.b3; exact decide_eq_true (by omega)
  · rw [d25 h]; have := h.b3; exact decide_eq_true (by omega)
  · rw [d26 h]; have := h.b3; exact decide_eq_false (by omega)
theorem h97 (h : BdI E) (hL : 0 < E.i 0 ∧ E.i 0 < 1099511627776) (hC : 1 < E.i 1) (hN : E.i 2 < 0) (hQ : E.i 3 / 16 % 16 ≤ 1) (hR : 4 < E.i 3 % 16) : FaOk E ⟨fa97, rrI⟩ := by
  refine faOk_of h fun c b hm => ?_
  simp only [fa97, List.mem_cons, List.not_mem_nil, or_false, Prod.mk.injEq] at hm
  rcases hm with ⟨rfl, rfl⟩ | ⟨rfl, rfl⟩ | ⟨rfl, rfl⟩ | ⟨rfl, rfl⟩ | ⟨rfl, rfl⟩ | ⟨rfl, rfl⟩ | ⟨rfl, rfl⟩ | ⟨rfl, rfl⟩ | ⟨rfl, rfl⟩ | ⟨rfl, rfl⟩ | ⟨rfl, rfl⟩ | ⟨rfl, rfl⟩ | ⟨rfl, rfl⟩ | ⟨rfl, rfl⟩ | ⟨rfl, rfl⟩ | ⟨rfl, rfl⟩
  · rw [d0 h]; have := h.b3; exact decide_eq_true (by omega)
  · rw [d1 h]; have := h.b3; exact decide_eq_false (by omega)
  · rw [d17 h]; have := h.b3; exact decide_eq_true (by omega)
  · rw [d2 h]; have := h.b3; exact decide_eq_true (by omega)
  · rw [d3 h]; have := h.b3; exact decide_eq_false (by omega)
  · rw [d4 h]; have := h.b3; exact decide_eq_false (by omega)
  · rw [d5 h]; have := h.b3; exact decide_eq_false (by omega)
  · rw [d6 h]; have := h.b3; exact decide_eq_true (by omega)
  · rw [d38 h]; have := h.b0; have := h.b1; have := h.b2; unfold valA; simp only [SE.den, arAdd, arMul, arRem, IntKind.wrap_u64, IntKind.wrap_i64, clI, tmod_pos (show 0 ≤ E.i 0 by omega)]; exact decide_eq_false (by simp only [Decidable.not_not]; (repeat' split) <;> omega)
  · rw [d8 h]; have := h.b3; exact decide_eq_false (by omega)
  · rw [d9 h]; have := h.b3; exact decide_eq_false (by simp only [clI]; (repeat' split) <;> omega)
  · rw [d12 h]; have := h.b3; exact decide_eq_false (by simp only [clI]; (repeat' split) <;> omega)
  · rw [d11 h]; have := h.b3; exact decide_eq_true (by omega)
  · rw [d24 h]; have := h.b3; exact decide_eq_true (by omega)
  · rw [d25 h]; have := h.b3; exact decide_eq_true (by omega)
  · rw [d26 h]; have := h.b3; exact decide_eq_false (by omega)
theorem h98 (h : BdI E) (hL : 0 < E.i 0 ∧ E.i 0 < 1099511627776) (hC : 1 < E.i 1) (hN : E.i 2 < 0) (hQ : 1 < E.i 3 / 16 % 16) (hR : E.i 3 % 16 ≤ 4) : FaOk E ⟨fa98, rrI⟩ := by
  refine faOk_of h fun c b hm => ?_
  simp only [fa98, List.mem_cons, List.not_mem_nil, or_false, Prod.mk.injEq] at hm
  rcases hm with ⟨rfl, rfl⟩ | ⟨rfl, rfl⟩ | ⟨rfl, rfl⟩ | ⟨rfl, rfl⟩ | ⟨rfl, rfl⟩ | ⟨rfl, rfl⟩ | ⟨rfl, rfl⟩ | ⟨rfl, rfl⟩ | ⟨rfl, rfl⟩ | ⟨rfl, rfl⟩ | ⟨rfl, rfl⟩ | ⟨rfl, rfl⟩ | ⟨rfl, rfl⟩ | ⟨rfl, rfl⟩ | ⟨rfl, rfl⟩ | ⟨rfl, rfl⟩
  · rw [d0 h]; have := h.b3; exact decide_eq_true (by omega)
  · rw [d1 h]; have := h.b3; exact decide_eq_false (by omega)
  · rw [d17 h]; have := h.b3; exact decide_eq_true (by omega)
  · rw [d2 h]; have := h.b3; exact decide_eq_true (by omega)
  · rw [d3 h]; have := h.b3; exact decide_eq_false (by omega)
  · rw [d4 h]; have := h.b3; exact decide_eq_true (by omega)
  · rw [d5 h]; have := h.b3; exact decide_eq_false (by omega)
  · rw [d6 h]; have := h.b3; exact decide_eq_false (by omega)
  · rw [d38 h]; have := h.b0; have := h.b1; have := h.b2; unfold valA; simp only [SE.den, arAdd, arMul, arRem, IntKind.wrap_u64, IntKind.wrap_i64, clI, tmod_pos (show 0 ≤ E.i 0 by omega)]; exact decide_eq_false (by simp only [Decidable.not_not]; (repeat' split) <;> omega)
  · rw [d8 h]; have := h.b3; exact decide_eq_false (by omega)
  · rw [d13 h]; have := h.b3; exact decide_eq_false (by simp only [clI]; (repeat' split) <;> omega)
  · rw [d10 h]; have := h.b3; exact decide_eq_false (by simp only [clI]; (repeat' split) <;> omega)
  · rw [d11 h]; have := h.b3; exact decide_eq_true (by omega)
  · rw [d24 h]; have := h.b3; exact decide_eq_true (by omega)
  · rw [d25 h]; have := h.b3; exact decide_eq_true (by omega)
  · rw [d26 h]; have := h.b3; exact decide_eq_false (by omega)
theorem h99 (h : BdI E) (hL : 0 < E.i 0 ∧ E.i 0 < 1099511627776) (hC : 1 < E.i 1) (hN : E.i 2 < 0) (hQ : 1 < E.i 3 / 16 % 16) (hR : 4 < E.i 3 % 16) : FaOk E ⟨fa99, rrI⟩ := by
  refine faOk_of h fun c b hm => ?_
  simp only [fa99, List.mem_cons, List.not_mem_nil, or_false, Prod.mk.injEq] at hm
  rcases hm with ⟨rfl, rfl⟩ | ⟨rfl, rfl⟩ | ⟨rfl, rfl⟩ | ⟨rfl, rfl⟩ | ⟨rfl, rfl⟩ | ⟨rfl, rfl⟩ | ⟨rfl, rfl⟩ | ⟨rfl, rfl⟩ | ⟨rfl, rfl⟩ | ⟨rfl, rfl⟩ | ⟨rfl, rfl⟩ | ⟨rfl, rfl⟩ | ⟨rfl, rfl⟩ | ⟨rfl, rfl⟩ | ⟨rfl, rfl⟩ | ⟨rfl, rfl⟩
  · rw [d0 h]; have := h.b3; exact decide_eq_true (by omega)
  · rw [d1 h]; have := h.b3; exact decide_eq_false (by omega)
  · rw [d17 h]; have := h.b3; exact decide_eq_true (by omega)
  · rw [d2 h]; have := h.b3; exact decide_eq_true (by omega)
  · rw [d3 h]; have := h.b3; exact decide_eq_false (by omega)
  · rw [d4 h]; have := h.b3; exact decide_eq_true (by omega)
  · rw [d5 h]; have := h.b3; exact decide_eq_false (by omega)
  · rw [d6 h]; have := h.b3; exact decide_eq_true (by omega)
  · rw [d38 h]; have := h.b0; have := h.b1; have := h.b2; unfold valA; simp only [SE.den, arAdd, arMul, arRem, IntKind.wrap_u64, IntKind.wrap_i64, clI, tmod_pos (show 0 ≤ E.i 0 by omega)]; exact decide_eq_false (by simp only [Decidable.not_not]; (repeat' split) <;> omega)
  · rw [d8 h]; have := h.b3; exact decide_eq_false (by omega)
  · rw [d13 h]; have := h.b3; exact decide_eq_false (by simp only [clI]; (repeat' split) <;> omega)
  · rw [d12 h]; have := h.b3; exact decide_eq_false (by simp only [clI]; (repeat' split) <;> omega)
  · rw [d11 h]; have := h.b3; exact decide_eq_true (by omega)
  · rw [d24 h]; have := h.b3; exact decide_eq_true (by omega)
  · rw [d25 h]; have := h.b3; exact decide_eq_true (by omega)
  · rw [d26 h]; have := h.b3; exact decide_eq_false (by omega)
theorem h100 (h : BdI E) (hL : 0 < E.i 0 ∧ E.i 0 < 1099511627776) (hC : 1 < E.i 1) (hN : 0 ≤ E.i 2 ∧ E.i 2 ≤ 4) (hQ : E.i 3 / 16 % 16 ≤ 1) (hR : E.i 3 % 16 ≤ 4) : FaOk E ⟨fa100, rrI⟩ := by
  refine faOk_of h fun c b hm => ?_
  simp only [fa100, List.mem_cons, List.not_mem_nil, or_false, Prod.mk.injEq] at hm
  rcases hm with ⟨rfl, rfl⟩ | ⟨rfl, rfl⟩ | ⟨rfl, rfl⟩ | ⟨rfl, rfl⟩ | ⟨rfl, rfl⟩ | ⟨rfl, rfl⟩ | ⟨rfl, rfl⟩ | ⟨rfl, rfl⟩ | ⟨rfl, rfl⟩ | ⟨rfl, rfl⟩ | ⟨rfl, rfl⟩ | ⟨rfl, rfl⟩ | ⟨rfl, rfl⟩ | ⟨rfl, rfl⟩ | ⟨rfl, rfl⟩ | ⟨rfl, rfl⟩ | ⟨rfl, rfl⟩
  · rw [d0 h]; have := h.b3; exact decide_eq_true (by omega)
  · rw [d1 h]; have := h.b3; exact decide_eq_false (by omega)
  · rw [d17 h]; have := h.b3; exact decide_eq_true (by omega)
  · rw [d2 h]; have := h.b3; exact decide_eq_false (by omega)
  · rw [d14 h]; have := h.b3; exact decide_eq_false (by omega)
  · rw [d3 h]; have := h.b3; exact decide_eq_false (by omega)
  · rw [d4 h]; have := h.b3; exact decide_eq_false (by omega)
  · rw [d5 h]; have := h.b3; exact decide_eq_false (by omega)
  · rw [d6 h]; have := h.b3; exact decide_eq_false (by omega)
  · rw [d39 h]; have := h.b0; have := h.b1; have := h.b2; unfold valA; simp only [SE.den, arAdd, arMul, arRem, IntKind.wrap_u64, IntKind.wrap_i64, clI, tmod_pos (show 0 ≤ E.i 0 by omega)]; exact decide_eq_false (by simp only [Decidable.not_not]; (repeat' split) <;> omega)
  · rw [d8 h]; have := h.b3; exact decide_eq_false (by omega)
  · rw [d9 h]; have := h.b3; exact decide_eq_false (by simp only [clI]; (repeat' split) <;> omega)
  · rw [d10 h]; have := h.b3; exact decide_eq_false (by simp only [clI]; (repeat' split) <;> omega)
  · rw [d11 h]; have := h.b3; exact decide_eq_true (by omega)
  · rw [d24 h]; have := h.b3; exact decide_eq_true (by omega)
  · rw [d25 h]; have := h.b3; exact decide_eq_true (by omega)
  · rw [d26 h]; have := h.b3; exact decide_eq_false (by omega)
theorem h101 (h : BdI E) (hL : 0 < E.i 0 ∧ E.i 0 < 1099511627776) (hC : 1 < E.i 1) (hN : 0 ≤ E.i 2 ∧ E.i 2 ≤ 4) (hQ : E.i 3 / 16 % 16 ≤ 1) (hR : 4 < E.i 3 % 16) : FaOk E ⟨fa101, rrI⟩ := by
  refine faOk_of h fun c b hm => ?_
  simp only [fa101, List.mem_cons, List.not_mem_nil, or_false, Prod.mk.injEq] at hm
  rcases hm with ⟨rfl, rfl⟩ | ⟨rfl, rfl⟩ | ⟨rfl, rfl⟩ | ⟨rfl, rfl⟩ | ⟨rfl, rfl⟩ | ⟨rfl, rfl⟩ | ⟨rfl, rfl⟩ | ⟨rfl, rfl⟩ | ⟨rfl, rfl⟩ | ⟨rfl, rfl⟩ | ⟨rfl, rfl⟩ | ⟨rfl, rfl⟩ | ⟨rfl, rfl⟩ | ⟨rfl, rfl⟩ | ⟨rfl, rfl⟩ | ⟨rfl, rfl⟩ | ⟨rfl, rfl⟩
  · rw [d0 h]; have := h.b3; exact decide_eq_true (by omega)
  · rw [d1 h]; have := h.b3; exact decide_eq_false (by omega)
  · rw [d17 h]; have := h.b3; exact decide_eq_true (by omega)
  · rw [d2 h]; have := h.b3; exact decide_eq_false (by omega)
  · rw [d14 h]; have := h.b3; exact decide_eq_false (by omega)
  · rw [d3 h]; have := h.b3; exact decide_eq_false (by omega)
  · rw [d4 h]; have := h.b3; exact decide_eq_false (by omega)
  · rw [d5 h]; have := h.b3; exact decide_eq_false (by omega)
  · rw [d6 h]; have := h.b3; exact decide_eq_true (by omega)
  · rw [d39 h]; have := h.b0; have := h.b1; have := h.b2; unfold valA; simp only [SE.den, arAdd, arMul, arRem, IntKind.wrap_u64, IntKind.wrap_i64, clI, tmod_pos (show 0 ≤ E.i 0 by omega)]; exact decide_eq_false (by simp only [Decidable.not_not]; (repeat' split) <;> omega)
  · rw [d8 h]; have := h.b3; exact decide_eq_false (by omega)
  · rw [d9 h]; have := h.b3; exact decide_eq_false (by simp only [clI]; (repeat' split) <;> omega)
  · rw [d12 h]; have := h.b3; exact decide_eq_false (by simp only [clI]; (repeat' split) <;> omega)
  · rw [d11 h]; have := h.b3; exact decide_eq_true (by omega)
  · rw [d24 h]; have := h.b3; exact decide_eq_true (by omega)
  · rw [d25 h]; have := h.b3; exact decide_eq_true (by omega)
  · rw [d26 h]; have := h.b3; exact decide_eq_false (by omega)
theorem h102 (h : BdI E) (hL : 0 < E.i 0 ∧ E.i 0 < 1099511627776) (hC : 1 < E.i 1) (hN : 0 ≤ E.i 2 ∧ E.i 2 ≤ 4) (hQ : 1 < E.i 3 / 16 % 16) (hR : E.i 3 % 16 ≤ 4) : FaOk E ⟨fa102, rrI⟩ := by
  refine faOk_of h fun c b hm => ?_
  simp only [fa102, List.mem_cons, List.not_mem_nil, or_false, Prod.mk.injEq] at hm
  rcases hm with ⟨rfl, rfl⟩ | ⟨rfl, rfl⟩ | ⟨rfl, rfl⟩ | ⟨rfl, rfl⟩ | ⟨rfl, rfl⟩ | ⟨rfl, rfl⟩ | ⟨rfl, rfl⟩ | ⟨rfl, rfl⟩ | ⟨rfl, rfl⟩ | ⟨rfl, rfl⟩ | ⟨rfl, rfl⟩ | ⟨rfl, rfl⟩ | ⟨rfl, rfl⟩ | ⟨rfl, rfl⟩ | ⟨rfl, rfl⟩ | ⟨rfl, rfl⟩ | ⟨rfl, rfl⟩
  · rw [d0 h]; have := h.b3; exact decide_eq_true (by omega)
  · rw [d1 h]; have := h.b3; exact decide_eq_false (by omega)
  · rw [d17 h]; have := h.b3; exact decide_eq_true (by omega)
  · rw [d2 h]; have := h.b3; exact decide_eq_false (by omega)
  · rw [d14 h]; have := h.b3; exact decide_eq_false (by omega)
  · rw [d3 h]; have := h.b3; exact decide_eq_false (by omega)
  · rw [d4 h]; have := h.b3; exact decide_eq_true (by omega)
  · rw [d5 h]; have := h.b3; exact decide_eq_false (by omega)
  · rw [d6 h]; have := h.b3; exact decide_eq_false (by omega)
  · rw [d39 h]; have := h.b0; have := h.b1; have := h.b2; unfold valA; simp only [SE.den, arAdd, arMul, arRem, IntKind.wrap_u64, IntKind.wrap_i64, clI, tmod_pos (show 0 ≤ E.i 0 by omega)]; exact decide_eq_false (by simp only [Decidable.not_not]; (repeat' split) <;> omega)
  · rw [d8 h]; have := h.b3; exact decide_eq_false (by omega)
  · rw [d13 h]; have := h.b3; exact decide_eq_false (by simp only [clI]; (repeat' split) <;> omega)
  · rw [d10 h]; have := h.b3; exact decide_eq_false (by simp only [clI]; (repeat' split) <;> omega)
  · rw [d11 h]; have := h.b3; exact decide_eq_true (by omega)
  · rw [d24 h]; have := h.b3; exact decide_eq_true (by omega)
  · rw [d25 h]; have := h.b3; exact decide_eq_true (by omega)
  · rw [d26 h]; have := h.b3; exact decide_eq_false (by omega)
theorem h103 (h : BdI E) (hL : 0 < E.i 0 ∧ E.i 0 < 1099511627776) (hC : 1 < E.i 1) (hN : 0 ≤ E.i 2 ∧ E.i 2 ≤ 4) (hQ : 1 < E.i 3 / 16 % 16) (hR : 4 < E.i 3 % 16) : FaOk E ⟨fa103, rrI⟩ := by
  refine faOk_of h fun c b hm => ?_
  simp only [fa103, List.mem_cons, List.not_mem_nil, or_false, Prod.mk.injEq] at hm
  rcases hm with ⟨rfl, rfl⟩ | ⟨rfl, rfl⟩ | ⟨rfl, rfl⟩ | ⟨rfl, rfl⟩ | ⟨rfl, rfl⟩ | ⟨rfl, rfl⟩ | ⟨rfl, rfl⟩ | ⟨rfl, rfl⟩ | ⟨rfl, rfl⟩ | ⟨rfl, rfl⟩ | ⟨rfl, rfl⟩ | ⟨rfl, rfl⟩ | ⟨rfl, rfl⟩ | ⟨rfl, rfl⟩ | ⟨rfl, rfl⟩ | ⟨rfl, rfl⟩ | ⟨rfl, rfl⟩
  · rw [d0 h]; have := h.b3; exact decide_eq_true (by omega)
  · rw [d1 h]; have := h.b3; exact decide_eq_false (by omega)
  · rw [d17 h]; have := h.b3; exact decide_eq_true (by omega)
  · rw [d2 h]; have := h.b3; exact decide_eq_false (by omega)
  · rw [d14 h]; have := h.b3; exact decide_eq_false (by omega)
  · rw [d3 h]; have := h.b3; exact decide_eq_false (by omega)
  · rw [d4 h]; have := h.b3; exact decide_eq_true (by omega)
  · rw [d5 h]; have := h.b3; exact decide_eq_false (by omega)
  · rw [d6 h]; have := h.b3; exact decide_eq_true (by omega)
  · rw [d39 h]; have := h.b0; have := h.b1; have := h.b2; unfold valA; simp only [SE.den, arAdd, arMul, arRem, IntKind.wrap_u64, IntKind.wrap_i64, clI, tmod_pos (show 0 ≤ E.i 0 by omega)]; exact decide_eq_false (by simp only [Decidable.not_not]; (repeat' split) <;> omega)
  · rw [d8 h]; have := h.b3; exact decide_eq_false (by omega)
  · rw [d13 h]; have := h.b3; exact decide_eq_false (by simp only [clI]; (repeat' split) <;> omega)
  · rw [d12 h]; have := h.b3; exact decide_eq_false (by simp only [clI]; (repeat' split) <;> omega)
  · rw [d11 h]; have := h.b3; exact decide_eq_true (by omega)
  · rw [d24 h]; have := h.b3; exact decide_eq_true (by omega)
  · rw [d25 h]; have := h.b3; exact decide_eq_true (by omega)
  · rw [d26 h]; have := h.b3; exact decide_eq_false (by omega)
theorem h104 (h : BdI E) (hL : 0 < E.i 0 ∧ E.i 0 < 1099511627776) (hC : 1 < E.i 1) (hN : 4 < E.i 2) (hQ : E.i 3 / 16 % 16 ≤ 1) (hR : E.i 3 % 16 ≤ 4) : FaOk E ⟨fa104, rrI⟩ := by
  refine faOk_of h fun c b hm => ?_
  simp only [fa104, List.mem_cons, List.not_mem_nil, or_false, Prod.mk.injEq] at hm
  rcases hm with ⟨rfl, rfl⟩ | ⟨rfl, rfl⟩ | ⟨rfl, rfl⟩ | ⟨rfl, rfl⟩ | ⟨rfl, rfl⟩ | ⟨rfl, rfl⟩ | ⟨rfl, rfl⟩ | ⟨rfl, rfl⟩ | ⟨rfl, rfl⟩ | ⟨rfl, rfl⟩ | ⟨rfl, rfl⟩ | ⟨rfl, rfl⟩ | ⟨rfl, rfl⟩ | ⟨rfl, rfl⟩ | ⟨rfl, rfl⟩ | ⟨rfl, rfl⟩ | ⟨rfl, rfl⟩
  · rw [d0 h]; have := h.b3; exact decide_eq_true (by omega)
  · rw [d1 h]; have := h.b3; exact decide_eq_false (by omega)
  · rw [d17 h]; have := h.b3; exact decide_eq_true (by omega)
  · rw [d2 h]; have := h.b3; exact decide_eq_false (by omega)
  · rw [d14 h]; have := h.b3; exact decide_eq_true (by omega)
  · rw [d3 h]; have := h.b3; exact decide_eq_false (by omega)
  · rw [d4 h]; have := h.b3; exact decide_eq_false (by omega)
  · rw [d5 h]; have := h.b3; exact decide_eq_false (by omega)
  · rw [d6 h]; have := h.b3; exact decide_eq_false (by omega)
  · rw [d40 h]; have := h.b0; have := h.b1; have := h.b2; unfold valA; simp only [SE.den, arAdd, arMul, arRem, IntKind.wrap_u64, IntKind.wrap_i64, clI, tmod_pos (show 0 ≤ E.i 0 by omega)]; exact decide_eq_false (by simp only [Decidable.not_not]; (repeat' split) <;> omega)
  · rw [d8 h]; have := h.b3; exact decide_eq_false (by omega)
  · rw [d9 h]; have := h.b3; exact decide_eq_false (by simp only [clI]; (repeat' split) <;> omega)
  · rw [d10 h]; have := h.b3; exact decide_eq_false (by simp only [clI]; (repeat' split) <;> omega)
  · rw [d11 h]; have := h.b3; exact decide_eq_true (by omega)
  · rw [d24 h]; have := h.b3; exact decide_eq_true (by omega)
  · rw [d25 h]; have := h.b3; exact decide_eq_true (by omega)
  · rw [d26 h]; have := h.b3; exact decide_eq_false (by omega)
theorem h105 (h : BdI E) (hL : 0 < E.i 0 ∧ E.i 0 < 1099511627776) (hC : 1 < E.i 1) (hN : 4 < E.i 2) (hQ : E.i 3 / 16 % 16 ≤ 1) (hR : 4 < E.i 3 % 16) : FaOk E ⟨fa105, rrI⟩ := by
  refine faOk_of h fun c b hm => ?_
  simp only [fa105, List.mem_cons, List.not_mem_nil, or_false, Prod.mk.injEq] at hm
  rcases hm with ⟨rfl, rfl⟩ | ⟨rfl, rfl⟩ | ⟨rfl, rfl⟩ | ⟨rfl, rfl⟩ | ⟨rfl, rfl⟩ | ⟨rfl, rfl⟩ | ⟨rfl, rfl⟩ | ⟨rfl, rfl⟩ | ⟨rfl, rfl⟩ | ⟨rfl, rfl⟩ | ⟨rfl, rfl⟩ | ⟨rfl, rfl⟩ | ⟨rfl, rfl⟩ | ⟨rfl, rfl⟩ | ⟨rfl, rfl⟩ | ⟨rfl, rfl⟩ | ⟨rfl, rfl⟩
  · rw [d0 h]; have := h.b3; exact decide_eq_true (by omega)
  · rw [d1 h]; have := h.b3; exact decide_eq_false (by omega)
  · rw [d17 h]; have := h.b3; exact decide_eq_true (by omega)
  · rw [d2 h]; have := h.b3; exact decide_eq_false (by omega)
  · rw [d14 h]; have := h.b3; exact decide_eq_true (by omega)
  · rw [d3 h]; have := h.b3; exact decide_eq_false (by omega)
  · rw [d4 h]; have := h.b3; exact decide_eq_false (by omega)
  · rw [d5 h]; have := h.b3; exact decide_eq_false (by omega)
  · rw [d6 h]; have := h.b3; exact decide_eq_true (by omega)
  · rw [d40 h]; have := h.b0; have := h.b1; have := h.b2; unfold valA; simp only [SE.den, arAdd, arMul, arRem, IntKind.wrap_u64, IntKind.wrap_i64, clI, tmod_pos (show 0 ≤ E.i 0 by omega)]; exact decide_eq_false (by simp only [Decidable.not_not]; (repeat' split) <;> omega)
  · rw [d8 h]; have := h.b3; exact decide_eq_false (by omega)
  · rw [d9 h]; have := h.b3; exact decide_eq_false (by simp only [clI]; (repeat' split) <;> omega)
  · rw [d12 h]; have := h.b3; exact decide_eq_false (by simp only [clI]; (repeat' split) <;> omega)
  · rw [d11 h]; have := h.b3; exact decide_eq_true (by omega)
  · rw [d24 h]; have := h.b3; exact decide_eq_true (by omega)
  · rw [d25 h]; have := h.b3; exact decide_eq_true (by omega)
  · rw [d26 h]; have := h.b3; exact decide_eq_false (by omega)
theorem h106 (h : BdI E) (hL : 0 < E.i 0 ∧ E.i 0 < 1099511627776) (hC : 1 < E.i 1) (hN : 4 < E.i 2) (hQ : 1 < E.i 3 / 16 % 16) (hR : E.i 3 % 16 ≤ 4) : FaOk E ⟨fa106, rrI⟩ := by
  refine faOk_of h fun c b hm => ?_
  simp only [fa106, List.mem_cons, List.not_mem_nil, or_false, Prod.mk.injEq] at hm
  rcases hm with ⟨rfl, rfl⟩ | ⟨rfl, rfl⟩ | ⟨rfl, rfl⟩ | ⟨rfl, rfl⟩ | ⟨rfl, rfl⟩ | ⟨rfl, rfl⟩ | ⟨rfl, rfl⟩ | ⟨rfl, rfl⟩ | ⟨rfl, rfl⟩ | ⟨rfl, rfl⟩ | ⟨rfl, rfl⟩ | ⟨rfl, rfl⟩ | ⟨rfl, rfl⟩ | ⟨rfl, rfl⟩ | ⟨rfl, rfl⟩ | ⟨rfl, rfl⟩ | ⟨rfl, rfl⟩
  · rw [d0 h]; have := h.b3; exact decide_eq_true (by omega)
  · rw [d1 h]; have := h.b3; exact decide_eq_false (by omega)
  · rw [d17 h]; have := h.b3; exact decide_eq_true (by omega)
  · rw [d2 h]; have := h.b3; exact decide_eq_false (by omega)
  · rw [d14 h]; have := h.b3; exact decide_eq_true (by omega)
  · rw [d3 h]; have := h.b3; exact decide_eq_false (by omega)
  · rw [d4 h]; have := h.b3; exact decide_eq_true (by omega)
  · rw [d5 h]; have := h.b3; exact decide_eq_false (by omega)
  · rw [d6 h]; have := h.b3; exact decide_eq_false (by omega)
  · rw [d40 h]; have := h.b0; have := h.b1; have := h.b2; unfold valA; simp only [SE.den, arAdd, arMul, arRem, IntKind.wrap_u64, IntKind.wrap_i64, clI, tmod_pos (show 0 ≤ E.i 0 by omega)]; exact decide_eq_false (by simp only [Decidable.not_not]; (repeat' split) <;> omega)
  · rw [d8 h]; have := h.b3; exact decide_eq_false (by omega)
  · rw [d13 h]; have := h.b3; exact decide_eq_false (by simp only [clI]; (repeat' split) <;> omega)
  · rw [d10 h]; have := h.b3; exact decide_eq_false (by simp only [clI]; (repeat' split) <;> omega)
  · rw [d11 h]; have := h.b3; exact decide_eq_true (by omega)
  · rw [d24 h]; have := h.b3; exact decide_eq_true (by omega)
  · rw [d25 h]; have := h.b3; exact decide_eq_true (by omega)
  · rw [d26 h]; have := h.b3; exact decide_eq_false (by omega)
theorem h107 (h : BdI E) (hL : 0 < E.i 0 ∧ E.i 0 < 1099511627776) (hC : 1 < E.i 1) (hN : 4 < E.i 2) (hQ : 1 < E.i 3 / 16 % 16) (hR : 4 < E.i 3 % 16) : FaOk E ⟨fa107, rrI⟩ := by
  refine faOk_of h fun c b hm => ?_
  simp only [fa107, List.mem_cons, List.not_mem_nil, or_false, Prod.mk.injEq] at hm
  rcases hm with ⟨rfl, rfl⟩ | ⟨rfl, rfl⟩ | ⟨rfl, rfl⟩ | ⟨rfl, rfl⟩ | ⟨rfl, rfl⟩ | ⟨rfl, rfl⟩ | ⟨rfl, rfl⟩ | ⟨rfl, rfl⟩ | ⟨rfl, rfl⟩ | ⟨rfl, rfl⟩ | ⟨rfl, rfl⟩ | ⟨rfl, rfl⟩ | ⟨rfl, rfl⟩ | ⟨rfl, rfl⟩ | ⟨rfl, rfl⟩ | ⟨rfl, rfl⟩ | ⟨rfl, rfl⟩
  · rw [d0 h]; have := h.b3; exact decide_eq_true (by omega)
  · rw [d1 h]; have := h.b3; exact decide_eq_false (by omega)
  · rw [d17 h]; have := h.b3; exact decide_eq_true (by omega)
  · rw [d2 h]; have := h.b3; exact decide_eq_false (by omega)
  · rw [d14 h]; have := h.b3; exact decide_eq_true (by omega)
  · rw [d3 h]; have := h.b3; exact decide_eq_false (by omega)
  · rw [d4 h]; have := h.b3; exact decide_eq_true (by omega)
  · rw [d5 h]; have := h.b3; exact decide_eq_false (by omega)
  · rw [d6 h]; have := h.b3; exact decide_eq_true (by omega)
  · rw [d40 h]; have := h.b0; have := h.b1; have := h.b2; unfold valA; simp only [SE.den, arAdd, arMul, arRem, IntKind.wrap_u64, IntKind.wrap_i64, clI, tmod_pos (show 0 ≤ E.i 0 by omega)]; exact decide_eq_false (by simp only [Decidable.not_not]; (repeat' split) <;> omega)
  · rw [d8 h]; have := h.b3; exact decide_eq_false (by omega)
  · rw [d13 h]; have := h.b3; exact decide_eq_false (by simp only [clI]; (repeat' split) <;> omega)
  · rw [d12 h]; have := h.b3; exact decide_eq_false (by simp only [clI]; (repeat' split) <;> omega)
  · rw [d11 h]; have := h.b3; exact decide_eq_true (by omega)
  · rw [d24 h]; have := h.b3; exact decide_eq_true (by omega)
  · rw [d25 h]; have := h.b3; exact decide_eq_true (by omega)
  · rw [d26 h]; have := h.b3; exact decide_eq_false (by omega)
theorem h108 (h : BdI E) (hL : 1099511627776 ≤ E.i 0) (hC : E.i 1 < 0) (hN : E.i 2 < 0) (hQ : E.i 3 / 16 % 16 ≤ 1) (hR : E.i 3 % 16 ≤ 4) : FaOk E ⟨fa108, rrI⟩ := by
  refine faOk_of h fun c b hm => ?_
  simp only [fa108, List.mem_cons, List.not_mem_nil, or_false, Prod.mk.injEq] at hm
  rcases hm with ⟨rfl, rfl⟩ | ⟨rfl, rfl⟩ | ⟨rfl, rfl⟩ | ⟨rfl, rfl⟩ | ⟨rfl, rfl⟩ | ⟨rfl, rfl⟩ | ⟨rfl, rfl⟩ | ⟨rfl, rfl⟩ | ⟨rfl, rfl⟩ | ⟨rfl, rfl⟩ | ⟨rfl, rfl⟩ | ⟨rfl, rfl⟩ | ⟨rfl, rfl⟩
  · rw [d0 h]; have := h.b3; exact decide_eq_true (by omega)
  · rw [d1 h]; have := h.b3; exact decide_eq_true (by omega)
  · rw [d2 h]; have := h.b3; exact decide_eq_true (by omega)
  · rw [d3 h]; have := h.b3; exact decide_eq_false (by omega)
  · rw [d4 h]; have := h.b3; exact decide_eq_false (by omega)
  · rw [d5 h]; have := h.b3; exact decide_eq_false (by omega)
  · rw [d6 h]; have := h.b3; exact decide_eq_false (by omega)
  · rw [d32 h]; have := h.b0; have := h.b1; have := h.b2; unfold valA; simp only [SE.den, arAdd, arMul, arRem, IntKind.wrap_u64, IntKind.wrap_i64, clI, tmod_pos (show 0 ≤ E.i 0 by omega)]; exact decide_eq_false (by simp only [Decidable.not_not]; (repeat' split) <;> omega)
  · rw [d8 h]; have := h.b3; exact decide_eq_false (by omega)
  · rw [d9 h]; have := h.b3; exact decide_eq_false (by simp only [clI]; (repeat' split) <;> omega)
  · rw [d10 h]; have := h.b3; exact decide_eq_false (by simp only [clI]; (repeat' split) <;> omega)
  · rw [d11 h]; have := h.b3; exact decide_eq_true (by omega)
  · rw [d24 h]; have := h.b3; exact decide_eq_false (by omega)
theorem h109 (h : BdI E) (hL : 1099511627776 ≤ E.i 0) (hC : E.i 1 < 0) (hN : E.i 2 < 0) (hQ : E.i 3 / 16 % 16 ≤ 1) (hR : 4 < E.i 3 % 16) : FaOk E ⟨fa109, rrI⟩ := by
  refine faOk_of h fun c b hm => ?_
  simp only [fa109, List.mem_cons, List.not_mem_nil, or_false, Prod.mk.injEq] at hm
  rcases hm with ⟨rfl, rfl⟩ | ⟨rfl, rfl⟩ | ⟨rfl, rfl⟩ | ⟨rfl, rfl⟩ | ⟨rfl, rfl⟩ | ⟨rfl, rfl⟩ | ⟨rfl, rfl⟩ | ⟨rfl, rfl⟩ | ⟨rfl, rfl⟩ | ⟨rfl, rfl⟩ | ⟨rfl, rfl⟩ | ⟨rfl, rfl⟩ | ⟨rfl, rfl⟩
  · rw [d0 h]; have := h.b3; exact decide_eq_true (by omega)
  · rw [d1 h]; have := h.b3; exact decide_eq_true (by omega)
  · rw [d2 h]; have := h.b3; exact decide_eq_true (by omega)
  · rw [d3 h]; have := h.b3; exact decide_eq_false (by omega)
  · rw [d4 h]; have := h.b3; exact decide_eq_false (by omega)
  · rw [d5 h]; have := h.b3; exact decide_eq_false (by omega)
  · rw [d6 h]; have := h.b3; exact decide_eq_true (by omega)
  · rw [d32 h]; have := h.b0; have := h.b1; have := h.b2; unfold valA; simp only [SE.den, arAdd, arMul, arRem, IntKind.wrap_u64, IntKind.wrap_i64, clI, tmod_pos (show 0 ≤ E.i 0 by omega)]; exact decide_eq_false (by simp only [Decidable.not_not]; (repeat' split) <;> omega)
  · rw [d8 h]; have := h.b3; exact decide_eq_false (by omega)
  · rw [d9 h]; have := h.b3; exact decide_eq_false (by simp only [clI]; (repeat' split) <;> omega)
  · rw [d12 h]; have := h.b3; exact decide_eq_false (by simp only [clI]; (repeat' split) <;> omega)
  · rw [d11 h]; have := h.b3; exact decide_eq_true (by omega)
  · rw [d24 h]; have := h.b3; exact decide_eq_false (by omega)
theorem h110 (h : BdI E) (hL : 1099511627776 ≤ E.i 0) (hC : E.i 1 < 0) (hN : E.i 2 < 0) (hQ : 1 < E.i 3 / 16 % 16) (hR : E.i 3 % 16 ≤ 4) : FaOk E ⟨fa110, rrI⟩ := by
  refine faOk_of h fun c b hm => ?_
  simp only [fa110, List.mem_cons, List.not_mem_nil, or_false, Prod.mk.injEq] at hm
  rcases hm with ⟨rfl, rfl⟩ | ⟨rfl, rfl⟩ | ⟨rfl, rfl⟩ | ⟨rfl, rfl⟩ | ⟨rfl, rfl⟩ | ⟨rfl, rfl⟩ | ⟨rfl, rfl⟩ | ⟨rfl, rfl⟩ | ⟨rfl, rfl⟩ | ⟨rfl, rfl⟩ | ⟨rfl, rfl⟩ | ⟨rfl, rfl⟩ | ⟨rfl, rfl⟩
  · rw [d0 h]; have := h.b3; exact decide_eq_true (by omega)
  · rw [d1 h]; have := h.b3; exact decide_eq_true (by omega)
  · rw [d2 h]; have := h.b3; exact decide_eq_true (by omega)
  · rw [d3 h]; have := h.b3; exact decide_eq_false (by omega)
  · rw [d4 h]; have := h.b3; exact decide_eq_true (by omega)
  · rw [d5 h]; have := h.b3; exact decide_eq_false (by omega)
  · rw [d6 h]; have := h.b3; exact decide_eq_false (by omega)
  · rw [d32 h]; have := h.b0; have := h.b1; have := h.b2; unfold valA; simp only [SE.den, arAdd, arMul, arRem, IntKind.wrap_u64, IntKind.wrap_i64, clI, tmod_pos (show 0 ≤ E.i 0 by omega)]; exact decide_eq_false (by simp only [Decidable.not_not]; (repeat' split) <;> omega)
  · rw [d8 h]; have := h.b3; exact decide_eq_false (by omega)
  · rw [d13 h]; have := h.b3; exact decide_eq_false (by simp only [clI]; (repeat' split) <;> omega)
  · rw [d10 h]; have := h.b3; exact decide_eq_false (by simp only [clI]; (repeat' split) <;> omega)
  · rw [d11 h]; have := h.b3; exact decide_eq_true (by omega)
  · rw [d24 h]; have := h.b3; exact decide_eq_false (by omega)
theorem h111 (h : BdI E) (hL : 1099511627776 ≤ E.i 0) (hC : E.i 1 < 0) (hN : E.i 2 < 0) (hQ : 1 < E.i 3 / 16 % 16) (hR : 4 < E.i 3 % 16) : FaOk E ⟨fa111, rrI⟩ := by
  refine faOk_of h fun c b hm => ?_
  simp only [fa111, List.mem_cons, List.not_mem_nil, or_false, Prod.mk.injEq] at hm
  rcases hm with ⟨rfl, rfl⟩ | ⟨rfl, rfl⟩ | ⟨rfl, rfl⟩ | ⟨rfl, rfl⟩ | ⟨rfl, rfl⟩ | ⟨rfl, rfl⟩ | ⟨rfl, rfl⟩ | ⟨rfl, rfl⟩ | ⟨rfl, rfl⟩ | ⟨rfl, rfl⟩ | ⟨rfl, rfl⟩ | ⟨rfl, rfl⟩ | ⟨rfl, rfl⟩
  · rw [d0 h]; have := h.b3; exact decide_eq_true (by omega)
  · rw [d1 h]; have := h.b3; exact decide_eq_true (by omega)
  · rw [d2 h]; have := h.b3; exact decide_eq_true (by omega)
  · rw [d3 h]; have := h.b3; exact decide_eq_false (by omega)
  · rw [d4 h]; have := h.b3; exact decide_eq_true (by omega)
  · rw [d5 h]; have := h.b3; exact decide_eq_false (by omega)
  · rw [d6 h]; have := h.b3; exact decide_eq_true (by omega)
  · rw [d32 h]; have := h.b0; have := h.b1; have := h.b2; unfold valA; simp only [SE.den, arAdd, arMul, arRem, IntKind.wrap_u64, IntKind.wrap_i64, clI, tmod_pos (show 0 ≤ E.i 0 by omega)]; exact decide_eq_false (by simp only [Decidable.not_not]; (repeat' split) <;> omega)
  · rw [d8 h]; have := h.b3; exact decide_eq_false (by omega)
  · rw [d13 h]; have := h.b3; exact decide_eq_false (by simp only [clI]; (repeat' split) <;> omega)
  · rw [d12 h]; have := h.b3; exact decide_eq_false (by simp only [clI]; (repeat' split) <;> omega)
  · rw [d11 h]; have := h.b3; exact decide_eq_true (by omega)
  · rw [d24 h]; have := h.b3; exact decide_eq_false (by omega)
theorem h112 (h : BdI E) (hL : 1099511627776 ≤ E.i 0) (hC : E.i 1 < 0) (hN : 0 ≤ E.i 2 ∧ E.i 2 ≤ 4) (hQ : E.i 3 / 16 % 16 ≤ 1) (hR : E.i 3 % 16 ≤ 4) : FaOk E ⟨fa112, rrI⟩ := by
  refine faOk_of h fun c b hm => ?_
  simp only [fa112, List.mem_cons, List.not_mem_nil, or_false, Prod.mk.injEq] at hm
  rcases hm with ⟨rfl, rfl⟩ | ⟨rfl, rfl⟩ | ⟨rfl, rfl⟩ | ⟨rfl, rfl⟩ | ⟨rfl, rfl⟩ | ⟨rfl, rfl⟩ | ⟨rfl, rfl⟩ | ⟨rfl, rfl⟩ | ⟨rfl, rfl⟩ | ⟨rfl, rfl⟩ | ⟨rfl, rfl⟩ | ⟨rfl, rfl⟩ | ⟨rfl, rfl⟩ | ⟨rfl, rfl⟩
  · rw [d0 h]; have := h.b3; exact decide_eq_true (by omega)
  · rw [d1 h]; have := h.b3; exact decide_eq_true (by omega)
  · rw [d2 h]; have := h.b3; exact decide_eq_false (by omega)
  · rw [d14 h]; have := h.b3; exact decide_eq_false (by omega)
  · rw [d3 h]; have := h.b3; exact decide_eq_false (by omega)
  · rw [d4 h]; have := h.b3; exact decide_eq_false (by omega)
  · rw [d5 h]; have := h.b3; exact decide_eq_false (by omega)
  · rw [d6 h]; have := h.b3; exact decide_eq_false (by omega)
  · rw [d33 h]; have := h.b0; have := h.b1; have := h.b2; unfold valA; simp only [SE.den, arAdd, arMul, arRem, IntKind.wrap_u64, IntKind.wrap_i64, clI, tmod_pos (show 0 ≤ E.i 0 by omega)]; exact decide_eq_false (by simp only [Decidable.not_not]; (repeat' split) <;> omega)
  · rw [d8 h]; have := h.b3; exact decide_eq_false (by omega)
  · rw [d9 h]; have := h.b3; exact decide_eq_false (by simp only [clI]; (repeat' split) <;> omega)
  · rw [d10 h]; have := h.b3; exact decide_eq_false (by simp only [clI]; (repeat' split) <;> omega)
  · rw [d11 h]; have := h.b3; exact decide_eq_true (by omega)
  · rw [d24 h]; have := h.b3; exact decide_eq_false (by omega)
theorem h113 (h : BdI E) (hL : 1099511627776 ≤ E.i 0) (hC : E.i 1 < 0) (hN : 0 ≤ E.i 2 ∧ E.i 2 ≤ 4) (hQ : E.i 3 / 16 % 16 ≤ 1) (hR : 4 < E.i 3 % 16) : FaOk E ⟨fa113, rrI⟩ := by
  refine faOk_of h fun c b hm => ?_
  simp only [fa113, List.mem_cons, List.not_mem_nil, or_false, Prod.mk.injEq] at hm
  rcases hm with ⟨rfl, rfl⟩ | ⟨rfl, rfl⟩ | ⟨rfl, rfl⟩ | ⟨rfl, rfl⟩ | ⟨rfl, rfl⟩ | ⟨rfl, rfl⟩ | ⟨rfl, rfl⟩ | ⟨rfl, rfl⟩ | ⟨rfl, rfl⟩ | ⟨rfl, rfl⟩ | ⟨rfl, rfl⟩ | ⟨rfl, rfl⟩ | ⟨rfl, rfl⟩ | ⟨rfl, rfl⟩
  · rw [d0 h]; have := h.b3; exact decide_eq_true (by omega)
  · rw [d1 h]; have := h.b3; exact decide_eq_true (by omega)
  · rw [d2 h]; have := h.b3; exact decide_eq_false (by omega)
  · rw [d14 h]; have := h.b3; exact decide_eq_false (by omega)
  · rw [d3 h]; have := h.b3; exact decide_eq_false (by omega)
  · rw [d4 h]; have := h.b3; exact decide_eq_false (by omega)
  · rw [d5 h]; have := h.b3; exact decide_eq_false (by omega)
  · rw [d6 h]; have := h.b3; exact decide_eq_true (by omega)
  · rw [d33 h]; have := h.b0; have := h.b1; have := h.b2; unfold valA; simp only [SE.den, arAdd, arMul, arRem, IntKind.wrap_u64, IntKind.wrap_i64, clI, tmod_pos (show 0 ≤ E.i 0 by omega)]; exact decide_eq_false (by simp only [Decidable.not_not]; (repeat' split) <;> omega)
  · rw [d8 h]; have := h.b3; exact decide_eq_false (by omega)
  · rw [d9 h]; have := h.b3; exact decide_eq_false (by simp only [clI]; (repeat' split) <;> omega)
  · rw [d12 h]; have := h.b3; exact decide_eq_false (by simp only [clI]; (repeat' split) <;> omega)
  · rw [d11 h]; have := h.b3; exact decide_eq_true (by omega)
  · rw [d24 h]; have := h.b3; exact decide_eq_false (by omega)
theorem h114 (h : BdI E) (hL : 1099511627776 ≤ E.i 0) (hC : E.i 1 < 0) (hN : 0 ≤ E.i 2 ∧ E.i 2 ≤ 4) (hQ : 1 < E.i 3 / 16 % 16) (hR : E.i 3 % 16 ≤ 4) : FaOk E ⟨fa114, rrI⟩ := by
  refine faOk_of h fun c b hm => ?_
  simp only [fa114, List.mem_cons, List.not_mem_nil, or_false, Prod.mk.injEq] at hm
  rcases hm with ⟨rfl, rfl⟩ | ⟨rfl, rfl⟩ | ⟨rfl, rfl⟩ | ⟨rfl, rfl⟩ | ⟨rfl, rfl⟩ | ⟨rfl, rfl⟩ | ⟨rfl, rfl⟩ | ⟨rfl, rfl⟩ | ⟨rfl, rfl⟩ | ⟨rfl, rfl⟩ | ⟨rfl, rfl⟩ | ⟨rfl, rfl⟩ | ⟨rfl, rfl⟩ | ⟨rfl, rfl⟩
  · rw [d0 h]; have := h.b3; exact decide_eq_true (by omega)
  · rw [d1 h]; have := h.b3; exact decide_eq_true (by omega)
  · rw [d2 h]; have := h.b3; exact decide_eq_false (by omega)
  · rw [d14 h]; have := h.b3; exact decide_eq_false (by omega)
  · rw [d3 h]; have := h.b3; exact decide_eq_false (by omega)
  · rw [d4 h]; have := h.b3; exact decide_eq_true (by omega)
  · rw [d5 h]; have := h.b3; exact decide_eq_false (by omega)
  · rw [d6 h]; have := h.b3; exact decide_eq_false (by omega)
  · rw [d33 h]; have := h.b0; have := h.b1; have := h.b2; unfold valA; simp only [SE.den, arAdd, arMul, arRem, IntKind.wrap_u64, IntKind.wrap_i64, clI, tmod_pos (show 0 ≤ E.i 0 by omega)]; exact decide_eq_false (by simp only [Decidable.not_not]; (repeat' split) <;> omega)
  · rw [d8 h]; have := h.b3; exact decide_eq_false (by omega)
  · rw [d13 h]; have := h.b3; exact decide_eq_false (by simp only [clI]; (repeat' split) <;> omega)
  · rw [d10 h]; have := h.b3; exact decide_eq_false (by simp only [clI]; (repeat' split) <;> omega)
  · rw [d11 h]; have := h.b3; exact decide_eq_true (by omega)
  · rw [d24 h]; have := h.b3; exact decide_eq_false (by omega)
theorem h115 (h : BdI E) (hL : 1099511627776 ≤ E.i 0) (hC : E.i 1 < 0) (hN : 0 ≤ E.i 2 ∧ E.i 2 ≤ 4) (hQ : 1 < E.i 3 / 16 % 16) (hR : 4 < E.i 3 % 16) : FaOk E ⟨fa115, rrI⟩ := by
  refine faOk_of h fun c b hm => ?_
  simp only [fa115, List.mem_cons, List.not_mem_nil, or_false, Prod.mk.injEq] at hm
  rcases hm with ⟨rfl, rfl⟩ | ⟨rfl, rfl⟩ | ⟨rfl, rfl⟩ | ⟨rfl, rfl⟩ | ⟨rfl, rfl⟩ | ⟨rfl, rfl⟩ | ⟨rfl, rfl⟩ | ⟨rfl, rfl⟩ | ⟨rfl, rfl⟩ | ⟨rfl, rfl⟩ | ⟨rfl, rfl⟩ | ⟨rfl, rfl⟩ | ⟨rfl, rfl⟩ | ⟨rfl, rfl⟩
  · rw [d0 h]; have := h.b3; exact decide_eq_true (by omega)
  · rw [d1 h]; have := h.b3; exact decide_eq_true (by omega)
  · rw [d2 h]; have := h.b3; exact decide_eq_false (by omega)
  · rw [d14 h]; have := h.b3; exact decide_eq_false (by omega)
  · rw [d3 h]; have := h.b3; exact decide_eq_false (by omega)
  · rw [d4 h]; have := h.b3; exact decide_eq_true (by omega)
  · rw [d5 h]; have := h.b3; exact decide_eq_false (by omega)
  · rw [d6 h]; have := h.b3; exact decide_eq_true (by omega)
  · rw [d33 h]; have := h.b0; have := h.b1; have := h.b2; unfold valA; simp only [SE.den, arAdd, arMul, arRem, IntKind.wrap_u64, IntKind.wrap_i64, clI, tmod_pos (show 0 ≤ E.i 0 by omega)]; exact decide_eq_false (by simp only [Decidable.not_not]; (repeat' split) <;> omega)
  · rw [d8 h]; have := h.b3; exact decide_eq_false (by omega)
  · rw [d13 h]; have := h.b3; exact decide_eq_false (by simp only [clI]; (repeat' split) <;> omega)
  · rw [d12 h]; have := h.b3; exact decide_eq_false (by simp only [clI]; (repeat' split) <;> omega)
  · rw [d11 h]; have := h.b3; exact decide_eq_true (by omega)
  · rw [d24 h]; have := h.b3; exact decide_eq_false (by omega)
theorem h116 (h : BdI E) (hL : 1099511627776 ≤ E.i 0) (hC : E.i 1 < 0) (hN : 4 < E.i 2) (hQ : E.i 3 / 16 % 16 ≤ 1) (hR : E.i 3 % 16 ≤ 4) : FaOk E ⟨fa116, rrI⟩ := by
  refine faOk_of h fun c b hm => ?_
  simp only [fa116, List.mem_cons, List.not_mem_nil, or_false, Prod.mk.injEq] at hm
  rcases hm with ⟨rfl, rfl⟩ | ⟨rfl, rfl⟩ | ⟨rfl, rfl⟩ | ⟨rfl, rfl⟩ | ⟨rfl, rfl⟩ | ⟨rfl, rfl⟩ | ⟨rfl, rfl⟩ | ⟨rfl, rfl⟩ | ⟨rfl, rfl⟩ | ⟨rfl, rfl⟩ | ⟨rfl, rfl⟩ | ⟨rfl, rfl⟩ | ⟨rfl, rfl⟩ | ⟨rfl, rfl⟩
  · rw [d0 h]; have := h.b3; exact decide_eq_true (by omega)
  · rw [d1 h]; have := h.b3; exact decide_eq_true (by omega)
  · rw [d2 h]; have := h.b3; exact decide_eq_false (by omega)
  · rw [d14 h]; have := h.b3; exact decide_eq_true (by omega)
  · rw [d3 h]; have := h.b3; exact decide_eq_false (by omega)
  · rw [d4 h]; have := h.b3; exact decide_eq_false (by omega)
  · rw [d5 h]; have := h.b3; exact decide_eq_false (by omega)
  · rw [d6 h]; have := h.b3; exact decide_eq_false (by omega)
  · rw [d34 h]; have := h.b0; have := h.b1; have := h.b2; unfold valA; simp only [SE.den, arAdd, arMul, arRem, IntKind.wrap_u64, IntKind.wrap_i64, clI, tmod_pos (show 0 ≤ E.i 0 by omega)]; exact decide_eq_false (by simp only [Decidable.not_not]; (repeat' split) <;> omega)
  · rw [d8 h]; have := h.b3; exact decide_eq_false (by omega)
  · rw [d9 h]; have := h.b3; exact decide_eq_false (by simp only [clI]; (repeat' split) <;> omega)
  · rw [d10 h]; have := h.b3; exact decide_eq_false (by simp only [clI]; (repeat' split) <;> omega)
  · rw [d11 h]; have := h.b3; exact decide_eq_true (by omega)
  · rw [d24 h]; have := h.b3; exact decide_eq_false (by omega)
theorem h117 (h : BdI E) (hL : 1099511627776 ≤ E.i 0) (hC : E.i 1 < 0) (hN : 4 < E.i 2) (hQ : E.i 3 / 16 % 16 ≤ 1) (hR : 4 < E.i 3 % 16) : FaOk E ⟨fa117, rrI⟩ := by
  refine faOk_of h fun c b hm => ?_
  simp only [fa117, List.mem_cons, List.not_mem_nil, or_false, Prod.mk.injEq] at hm
  rcases hm with ⟨rfl, rfl⟩ | ⟨rfl, rfl⟩ | ⟨rfl, rfl⟩ | ⟨rfl, rfl⟩ | ⟨rfl, rfl⟩ | ⟨rfl, rfl⟩ | ⟨rfl, rfl⟩ | ⟨rfl, rfl⟩ | ⟨rfl, rfl⟩ | ⟨rfl, rfl⟩ | ⟨rfl, rfl⟩ | ⟨rfl, rfl⟩ | ⟨rfl, rfl⟩ | ⟨rfl, rfl⟩
  · rw [d0 h]; have := h.b3; exact decide_eq_true (by omega)
  · rw [d1 h]; have := h.b3; exact decide_eq_true (by omega)
  · rw [d2 h]; have := h.b3; exact decide_eq_false (by omega)
  · rw [d14 h]; have := h.b3; exact decide_eq_true (by omega)
  · rw [d3 h]; have := h.b3; exact decide_eq_false (by omega)
  · rw [d4 h]; have := h.b3; exact decide_eq_false (by omega)
  · rw [d5 h]; have := h.b3; exact decide_eq_false (by omega)
  · rw [d6 h]; have := h.b3; exact decide_eq_true (by omega)
  · rw [d34 h]; have := h.b0; have := h.b1; have := h.b2; unfold valA; simp only [SE.den, arAdd, arMul, arRem, IntKind.wrap_u64, IntKind.wrap_i64, clI, tmod_pos (show 0 ≤ E.i 0 by omega)]; exact decide_eq_false (by simp only [Decidable.not_not]; (repeat' split) <;> omega)
  · rw [d8 h]; have := h.b3; exact decide_eq_false (by omega)
  · rw [d9 h]; have := h.b3; exact decide_eq_false (by simp only [clI]; (repeat' split) <;> omega)
  · rw [d12 h]; have := h.b3; exact decide_eq_false (by simp only [clI]; (repeat' split) <;> omega)
  · rw [d11 h]; have := h.b3; exact decide_eq_true (by omega)
  · rw [d24 h]; have := h.b3; exact decide_eq_false (by omega)
theorem h118 (h : BdI E) (hL : 1099511627776 ≤ E.i 0) (hC : E.i 1 < 0) (hN : 4 < E.i 2) (hQ : 1 < E.i 3 / 16 % 16) (hR : E.i 3 % 16 ≤ 4) : FaOk E ⟨fa118, rrI⟩ := by
  refine faOk_of h fun c b hm => ?_
  simp only [fa118, List.mem_cons, List.not_mem_nil, or_false, Prod.mk.injEq] at hm
  rcases hm with ⟨rfl, rfl⟩ | ⟨rfl, rfl⟩ | ⟨rfl, rfl⟩ | ⟨rfl, rfl⟩ | ⟨rfl, rfl⟩ | ⟨rfl, rfl⟩ | ⟨rfl, rfl⟩ | ⟨rfl, rfl⟩ | ⟨rfl, rfl⟩ | ⟨rfl, rfl⟩ | ⟨rfl, rfl⟩ | ⟨rfl, rfl⟩ | ⟨rfl, rfl⟩ | ⟨rfl, rfl⟩
  · rw [d0 h]; have := h.b3; exact decide_eq_true (by omega)
  · rw [d1 h]; have := h.b3; exact decide_eq_true (by omega)
  · rw [d2 h]; have := h.b3; exact decide_eq_false (by omega)
  · rw [d14 h]; have := h.b3; exact decide_eq_true (by omega)
  · rw [d3 h]; have := h.b3; exact decide_eq_false (by omega)
  · rw [d4 h]; have := h.b3; exact decide_eq_true (by omega)
  · rw [d5 h]; have := h.b3; exact decide_eq_false (by omega)
  · rw [d6 h]; have := h.b3; exact decide_eq_false (by omega)
  · rw [d34 h]; have := h.b0; have := h.b1; have := h.b2; unfold valA; simp only [SE.den, arAdd, arMul, arRem, IntKind.wrap_u64, IntKind.wrap_i64, clI, tmod_pos (show 0 ≤ E.i 0 by omega)]; exact decide_eq_false (by simp only [Decidable.not_not]; (repeat' split) <;> omega)
  · rw [d8 h]; have := h.b3; exact decide_eq_false (by omega)
  · rw [d13 h]; have := h.b3; exact decide_eq_false (by simp only [clI]; (repeat' split) <;> omega)
  · rw [d10 h]; have := h.b3; exact decide_eq_false (by simp only [clI]; (repeat' split) <;> omega)
  · rw [d11 h]; have := h.b3; exact decide_eq_true (by omega)
  · rw [d24 h]; have := h.b3; exact decide_eq_false (by omega)
theorem h119 (h : BdI E) (hL : 1099511627776 ≤ E.i 0) (hC : E.i 1 < 0) (hN : 4 < E.i 2) (hQ : 1 < E.i 3 / 16 % 16) (hR : 4 < E.i 3 % 16) : FaOk E ⟨fa119, rrI⟩ := by
  refine faOk_of h fun c b hm => ?_
  simp only [fa119, List.mem_cons, List.not_mem_nil, or_false, Prod.mk.injEq] at hm
  rcases hm with ⟨rfl, rfl⟩ | ⟨rfl, rfl⟩ | ⟨rfl, rfl⟩ | ⟨rfl, rfl⟩ | ⟨rfl, rfl⟩ | ⟨rfl, rfl⟩ | ⟨rfl, rfl⟩ | ⟨rfl, rfl⟩ | ⟨rfl, rfl⟩ | ⟨rfl, rfl⟩ | ⟨rfl, rfl⟩ | ⟨rfl, rfl⟩ | ⟨rfl, rfl⟩ | ⟨rfl, rfl⟩
  · rw [d0 h]; have := h.b3; exact decide_eq_true (by omega)
  · rw [d1 h]; have := h.b3; exact decide_eq_true (by omega)
  · rw [d2 h]; have := h.b3; exact decide_eq_false (by omega)
  · rw [d14 h]; have := h.b3; exact decide_eq_true (by omega)
  · rw [d3 h]; have := h.b3; exact decide_eq_false (by omega)
  · rw [d4 h]; have := h.b3; exact decide_eq_true (by omega)
  · rw [d5 h]; have := h.b3; exact decide_eq_false (by omega)
  · rw [d6 h]; have := h.b3; exact decide_eq_true (by omega)
  · rw [d34 h]; have := h.b0; have := h.b1; have := h.b2; unfold valA; simp only [SE.den, arAdd, arMul, arRem, IntKind.wrap_u64, IntKind.wrap_i64, clI, tmod_pos (show 0 ≤ E.i 0 by omega)]; exact decide_eq_false (by simp only [Decidable.not_not]; (repeat' split) <;> omega)
  · rw [d8 h]; have := h.b3; exact decide_eq_false (by omega)
  · rw [d13 h]; have := h.b3; exact decide_eq_false (by simp only [clI]; (repeat' split) <;> omega)
  · rw [d12 h]; have := h.b3; exact decide_eq_false (by simp only [clI]; (repeat' split) <;> omega)
  · rw [d11 h]; have := h.b3; exact decide_eq_true (by omega)
  · rw [d24 h]; have := h.b3; exact decide_eq_false (by omega)
theorem h120 (h : BdI E) (hL : 1099511627776 ≤ E.i 0) (hC : 0 ≤ E.i 1 ∧ E.i 1 ≤ 1) (hN : E.i 2 < 0) (hQ : E.i 3 / 16 % 16 ≤ 1) (hR : E.i 3 % 16 ≤ 4) : FaOk E ⟨fa120, rrI⟩ := by
  refine faOk_of h fun c b hm => ?_
  simp only [fa120, List.mem_cons, List.not_mem_nil, or_false, Prod.mk.injEq] at hm
  rcases hm with ⟨rfl, rfl⟩ | ⟨rfl, rfl⟩ | ⟨rfl, rfl⟩ | ⟨rfl, rfl⟩ | ⟨rfl, rfl⟩ | ⟨rfl, rfl⟩ | ⟨rfl, rfl⟩ | ⟨rfl, rfl⟩ | ⟨rfl, rfl⟩ | ⟨rfl, rfl⟩ | ⟨rfl, rfl⟩ | ⟨rfl, rfl⟩ | ⟨rfl, rfl⟩ | ⟨rfl, rfl⟩
  · rw [d0 h]; have := h.b3; exact decide_eq_true (by omega)
  · rw [d1 h]; have := h.b3; exact decide_eq_false (by omega)
  · rw [d17 h]; have := h.b3; exact decide_eq_false (by omega)
  · rw [d2 h]; have := h.b3; exact decide_eq_true (by omega)
  · rw [d3 h]; have := h.b3; exact decide_eq_false (by omega)
  · rw [d4 h]; have := h.b3; exact decide_eq_false (by omega)
  · rw [d5 h]; have := h.b3; exact decide_eq_false (by omega)
  · rw [d6 h]; have := h.b3; exact decide_eq_false (by omega)
  · rw [d35 h]; have := h.b0; have := h.b1; have := h.b2; unfold valA; simp only [SE.den, arAdd, arMul, arRem, IntKind.wrap_u64, IntKind.wrap_i64, clI, tmod_pos (show 0 ≤ E.i 0 by omega)]; exact decide_eq_false (by simp only [Decidable.not_not]; (repeat' split) <;> omega)
  · rw [d8 h]; have := h.b3; exact decide_eq_false (by omega)
  · rw [d9 h]; have := h.b3; exact decide_eq_false (by simp only [clI]; (repeat' split) <;> omega)
  · rw [d10 h]; have := h.b3; exact decide_eq_false (by simp only [clI]; (repeat' split) <;> omega)
  · rw [d11 h]; have := h.b3; exact decide_eq_true (by omega)
  · rw [d24 h]; have := h.b3; exact decide_eq_false (by omega)
theorem h121 (h : BdI E) (hL : 1099511627776 ≤ E.i 0) (hC : 0 ≤ E.i 1 ∧ E.i 1 ≤ 1) (hN : E.i 2 < 0) (hQ : E.i 3 / 16 % 16 ≤ 1) (hR : 4 < E.i 3 % 16) : FaOk E ⟨fa121, rrI⟩ := by
  refine faOk_of h fun c b hm => ?_
  simp only [fa121, List.mem_cons, List.not_mem_nil, or_false, Prod.mk.injEq] at hm
  rcases hm with ⟨rfl, rfl⟩ | ⟨rfl, rfl⟩ | ⟨rfl, rfl⟩ | ⟨rfl, rfl⟩ | ⟨rfl, rfl⟩ | ⟨rfl, rfl⟩ | ⟨rfl, rfl⟩ | ⟨rfl, rfl⟩ | ⟨rfl, rfl⟩ | ⟨rfl, rfl⟩ | ⟨rfl, rfl⟩ | ⟨rfl, rfl⟩ | ⟨rfl, rfl⟩ | ⟨rfl, rfl⟩
  · rw [d0 h]; have := h.b3; exact decide_eq_true (by omega)
  · rw [d1 h]; have := h.b3; exact decide_eq_false (by omega)
  · rw [d17 h]; have := h.b3; exact decide_eq_false (by omega)
  · rw [d2 h]; have := h.b3; exact decide_eq_true (by omega)
  · rw [d3 h]; have := h.b3; exact decide_eq_false (by omega)
  · rw [d4 h]; have := h.b3; exact decide_eq_false (by omega)
  · rw [d5 h]; have := h.b3; exact decide_eq_false (by omega)
  · rw [d6 h]; have := h.b3; exact decide_eq_true (by omega)
  · rw [d35 h]; have := h.b0; have := h.b1; have := h.b2; unfold valA; simp only [SE.den, arAdd, arMul, arRem, IntKind.wrap_u64, IntKind.wrap_i64, clI, tmod_pos (show 0 ≤ E.i 0 by omega)]; exact decide_eq_false (by simp only [Decidable.not_not]; (repeat' split) <;> omega)
  · rw [d8 h]; have := h.b3; exact decide_eq_false (by omega)
  · rw [d9 h]; have := h.b3; exact decide_eq_false (by simp only [clI]; (repeat' split) <;> omega)
  · rw [d12 h]; have := h.b3; exact decide_eq_false (by simp only [clI]; (repeat' split) <;> omega)
  · rw [d11 h]; have := h.b3; exact decide_eq_true (by omega)
  · rw [d24 h]; have := h.b3; exact decide_eq_false (by omega)
theorem h122 (h : BdI E) (hL : 1099511627776 ≤ E.i 0) (hC : 0 ≤ E.i 1 ∧ E.i 1 ≤ 1) (hN : E.i 2 < 0) (hQ : 1 < E.i 3 / 16 % 16) (hR : E.i 3 % 16 ≤ 4) : FaOk E ⟨fa122, rrI⟩ := by
  refine faOk_of h fun c b hm => ?_
  simp only [fa122, List.mem_cons, List.not_mem_nil, or_false, Prod.mk.injEq] at hm
  rcases hm with ⟨rfl, rfl⟩ | ⟨rfl, rfl⟩ | ⟨rfl, rfl⟩ | ⟨rfl, rfl⟩ | ⟨rfl, rfl⟩ | ⟨rfl, rfl⟩ | ⟨rfl, rfl⟩ | ⟨rfl, rfl⟩ | ⟨rfl, rfl⟩ | ⟨rfl, rfl⟩ | ⟨rfl, rfl⟩ | ⟨rfl, rfl⟩ | ⟨rfl, rfl⟩ | ⟨rfl, rfl⟩
  · rw [d0 h]; have := h.b3; exact decide_eq_true (by omega)
  · rw [d1 h]; have := h.b3; exact decide_eq_false (by omega)
  · rw [d17 h]; have := h.b3; exact decide_eq_false (by omega)
  · rw [d2 h]; have := h.b3; exact decide_eq_true (by omega)
  · rw [d3 h]; have := h.b3; exact decide_eq_false (by omega)
  · rw [d4 h]; have := h.b3; exact decide_eq_true (by omega)
  · rw [d5 h]; have := h.b3; exact decide_eq_false (by omega)
  · rw [d6 h]; have := h.b3; exact decide_eq_false (by omega)
  · rw [d35 h]; have := h.b0; have := h.b1; have := h.b2; unfold valA; simp only [SE.den, arAdd, arMul, arRem, IntKind.wrap_u64, IntKind.wrap_i64, clI, tmod_pos (show 0 ≤ E.i 0 by omega)]; exact decide_eq_false (by simp only [Decidable.not_not]; (repeat' split) <;> omega)
  · rw [d8 h]; have := h.b3; exact decide_eq_false (by omega)
  · rw [d13 h]; have := h.b3; exact decide_eq_false (by simp only [clI]; (repeat' split) <;> omega)
  · rw [d10 h]; have := h.b3; exact decide_eq_false (by simp only [clI]; (repeat' split) <;> omega)
  · rw [d11 h]; have := h.b3; exact decide_eq_true (by omega)
  · rw [d24 h]; have := h.b3; exact decide_eq_false (by omega)
theorem h123 (h : BdI E) (hL : 1099511627776 ≤ E.i 0) (hC : 0 ≤ E.i 1 ∧ E.i 1 ≤ 1) (hN : E.i 2 < 0) (hQ : 1 < E.i 3 / 16 % 16) (hR : 4 < E.i 3 % 16) : FaOk E ⟨fa123, rrI⟩ := by
  refine faOk_of h fun c b hm => ?_
  simp only [fa123, List.mem_cons, List.not_mem_nil, or_false, Prod.mk.injEq] at hm
  rcases hm with ⟨rfl, rfl⟩ | ⟨rfl, rfl⟩ | ⟨rfl, rfl⟩ | ⟨rfl, rfl⟩ | ⟨rfl, rfl⟩ | ⟨rfl, rfl⟩ | ⟨rfl, rfl⟩ | ⟨rfl, rfl⟩ | ⟨rfl, rfl⟩ | ⟨rfl, rfl⟩ | ⟨rfl, rfl⟩ | ⟨rfl, rfl⟩ | ⟨rfl, rfl⟩ | ⟨rfl, rfl⟩
  · rw [d0 h]; have := h.b3; exact decide_eq_true (by omega)
  · rw [d1 h]; have := h.b3; exact decide_eq_false (by omega)
  · rw [d17 h]; have := h.b3; exact decide_eq_false (by omega)
  · rw [d2 h]; have := h.b3; exact decide_eq_true (by omega)
  · rw [d3 h]; have := h.b3; exact decide_eq_false (by omega)
  · rw [d4 h]; have := h.b3; exact decide_eq_true (by omega)
  · rw [d5 h]; have := h.b3; exact decide_eq_false (by omega)
  · rw [d6 h]; have := h.b3; exact decide_eq_true (by omega)
  · rw [d35 h]; have := h.b0; have := h.b1; have := h.b2; unfold valA; simp only [SE.den, arAdd, arMul, arRem, IntKind.wrap_u64, IntKind.wrap_i64, clI, tmod_pos (show 0 ≤ E.i 0 by omega)]; exact decide_eq_false (by simp only [Decidable.not_not]; (repeat' split) <;> omega)
  · rw [d8 h]; have := h.b3; exact decide_eq_false (by omega)
  · rw [d13 h]; have := h.b3; exact decide_eq_false (by simp only [clI]; (repeat' split) <;> omega)
  · rw [d12 h]; have := h.b3; exact decide_eq_false (by simp only [clI]; (repeat' split) <;> omega)
  · rw [d11 h]; have := h.b3; exact decide_eq_true (by omega)
  · rw [d24 h]; have := h.b3; exact decide_eq_false (by omega)
theorem h124 (h : BdI E) (hL : 1099511627776 ≤ E.i 0) (hC : 0 ≤ E.i 1 ∧ E.i 1 ≤ 1) (hN : 0 ≤ E.i 2 ∧ E.i 2 ≤ 4) (hQ : E.i 3 / 16 % 16 ≤ 1) (hR : E.i 3 % 16 ≤ 4) : FaOk E ⟨fa124, rrI⟩ := by
  refine faOk_of h fun c b hm => ?_
  simp only [fa124, List.mem_cons, List.not_mem_nil, or_false, Prod.mk.injEq] at hm
  rcases hm with ⟨rfl, rfl⟩ | ⟨rfl, rfl⟩ | ⟨rfl, rfl⟩ | ⟨rfl, rfl⟩ | ⟨rfl, rfl⟩ | ⟨rfl, rfl⟩ | ⟨rfl, rfl⟩ | ⟨rfl, rfl⟩ | ⟨rfl, rfl⟩ | ⟨rfl, rfl⟩ | ⟨rfl, rfl⟩ | ⟨rfl, rfl⟩ | ⟨rfl, rfl⟩ | ⟨rfl, rfl⟩ | ⟨rfl, rfl⟩
  · rw [d0 h]; have := h.b3; exact decide_eq_true (by omega)
  · rw [d1 h]; have := h.b3; exact decide_eq_false (by omega)
  · rw [d17 h]; have := h.b3; exact decide_eq_false (by omega)
  · rw [d2 h]; have := h.b3; exact decide_eq_false (by omega)
  · rw [d14 h]; have := h.b3; exact decide_eq_false (by omega)
  · rw [d3 h]; have := h.b3; exact decide_eq_false (by omega)
  · rw [d4 h]; have := h.b3; exact decide_eq_false (by omega)
  · rw [d5 h]; have := h.b3; exact decide_eq_false (by omega)
  · rw [d6 h]; have := h.b3; exact decide_eq_false (by omega)
  · rw [d36 h]; have := h.b0; have := h.b1; have := h.b2; unfold valA; simp only [SE.den, arAdd, arMul, arRem, IntKind.wrap_u64, IntKind.wrap_i64, clI, tmod_pos (show 0 ≤ E.i 0 by omega)]; exact decide_eq_false (by simp only [Decidable.not_not]; (repeat' split) <;> omega)
  · rw [d8 h]; have := h.b3; exact decide_eq_false (by omega)
  · rw [d9 h]; have := h.b3; exact decide_eq_false (by simp only [clI]; (repeat' split) <;> omega)
  · rw [d10 h]; have := h.b3; exact decide_eq_false (by simp only [clI]; (repeat' split) <;> omega)
  · rw [d11 h]; have := h.b3; exact decide_eq_true (by omega)
  · rw [d24 h]; have := h.b3; exact decide_eq_false (by omega)
theorem h125 (h : BdI E) (hL : 1099511627776 ≤ E.i 0) (hC : 0 ≤ E.i 1 ∧ E.i 1 ≤ 1) (hN : 0 ≤ E.i 2 ∧ E.i 2 ≤ 4) (hQ : E.i 3 / 16 % 16 ≤ 1) (hR : 4 < E.i 3 % 16) : FaOk E ⟨fa125, rrI⟩ := by
  refine faOk_of h fun c b hm => ?_
  simp only [fa125, List.mem_cons, List.not_mem_nil, or_false, Prod.mk.injEq] at hm
  rcases hm with ⟨rfl, rfl⟩ | ⟨rfl, rfl⟩ | ⟨rfl, rfl⟩ | ⟨rfl, rfl⟩ | ⟨rfl, rfl⟩ | ⟨rfl, rfl⟩ | ⟨rfl, rfl⟩ | ⟨rfl, rfl⟩ | ⟨rfl, rfl⟩ | ⟨rfl, rfl⟩ | ⟨rfl, rfl⟩ | ⟨rfl, rfl⟩ | ⟨rfl, rfl⟩ | ⟨rfl, rfl⟩ | ⟨rfl, rfl⟩
  · rw [d0 h]; have := h.b3; exact decide_eq_true (by omega)
  · rw [d1 h]; have := h.b3; exact decide_eq_false (by omega)
  · rw [d17 h]; have := h.b3; exact decide_eq_false (by omega)
  · rw [d2 h]; have := h.b3; exact decide_eq_false (by omega)
  · rw [d14 h]; have := h.b3; exact decide_eq_false (by omega)
  · rw [d3 h]; have := h.b3; exact decide_eq_false (by omega)
  · rw [d4 h]; have := h.b3; exact decide_eq_false (by omega)
  · rw [d5 h]; have := h.b3; exact decide_eq_false (by omega)
  · rw [d6 h]; have := h.b3; exact decide_eq_true (by omega)
  · rw [d36 h]; have := h.b0; have := h.b1; have := h.b2; unfold valA; simp only [SE.den, arAdd, arMul, arRem, IntKind.wrap_u64, IntKind.wrap_i64, clI, tmod_pos (show 0 ≤ E.i 0 by omega)]; exact decide_eq_false (by simp only [Decidable.not_not]; (repeat' split) <;> omega)
  · rw [d8 h]; have := h.b3; exact decide_eq_false (by omega)
  · rw [d9 h]; have := h.b3; exact decide_eq_false (by simp only [clI]; (repeat' split) <;> omega)
  · rw [d12 h]; have := h.b3; exact decide_eq_false (by simp only [clI]; (repeat' split) <;> omega)
  · rw [d11 h]; have := h.b3; exact decide_eq_true (by omega)
  · rw [d24 h]; have := h.b3; exact decide_eq_false (by omega)
theorem h126 (h : BdI E) (hL : 1099511627776 ≤ E.i 0) (hC : 0 ≤ E.i 1 ∧ E.i 1 ≤ 1) (hN : 0 ≤ E.i 2 ∧ E.i 2 ≤ 4) (hQ : 1 < E.i 3 / 16 % 16) (hR : E.i 3 % 16 ≤ 4) : FaOk E ⟨fa126, rrI⟩ := by
  refine faOk_of h fun c b hm => ?_
  simp only [fa126, List.mem_cons, List.not_mem_nil, or_false, Prod.mk.injEq] at hm
  rcases hm with ⟨rfl, rfl⟩ | ⟨rfl, rfl⟩ | ⟨rfl, rfl⟩ | ⟨rfl, rfl⟩ | ⟨rfl, rfl⟩ | ⟨rfl, rfl⟩ | ⟨rfl, rfl⟩ | ⟨rfl, rfl⟩ | ⟨rfl, rfl⟩ | ⟨rfl, rfl⟩ | ⟨rfl, rfl⟩ | ⟨rfl, rfl⟩ | ⟨rfl, rfl⟩ | ⟨rfl, rfl⟩ | ⟨rfl, rfl⟩
  · rw [d0 h]; have := h.b3; exact decide_eq_true (by omega)
  · rw [d1 h]; have := h.b3; exact decide_eq_false (by omega)
  · rw [d17 h]; have := h.b3; exact decide_eq_false (by omega)
  · rw [d2 h]; have := h.b3; exact decide_eq_false (by omega)
  · rw [d14 h]; have := h.b3; exact decide_eq_false (by omega)
  · rw [d3 h]; have := h.b3; exact decide_eq_false (by omega)
  · rw [d4 h]; have := h.b3; exact decide_eq_true (by omega)
  · rw [d5 h]; have := h.b3; exact decide_eq_false (by omega)
  · rw [d6 h]; have := h.b3; exact decide_eq_false (by omega)
  · rw [d36 h]; have := h.b0; have := h.b1; have := h.b2; unfold valA; simp only [SE.den, arAdd, arMul, arRem, IntKind.wrap_u64, IntKind.wrap_i64, clI, tmod_pos (show 0 ≤ E.i 0 by omega)]; exact decide_eq_false (by simp only [Decidable.not_not]; (repeat' split) <;> omega)
  · rw [d8 h]; have := h.b3; exact decide_eq_false (by omega)
  · rw [d13 h]; have := h.b3; exact decide_eq_false (by simp only [clI]; (repeat' split) <;> omega)
  · rw [d10 h]; have := h.b3; exact decide_eq_false (by simp only [clI]; (repeat' split) <;> omega)
  · rw [d11 h]; have := h.b3; exact decide_eq_true (by omega)
  · rw [d24 h]; have := h.b3; exact decide_eq_false (by omega)
theorem h127 (h : BdI E) (hL : 1099511627776 ≤ E.i 0) (hC : 0 ≤ E.i 1 ∧ E.i 1 ≤ 1) (hN : 0 ≤ E.i 2 ∧ E.i 2 ≤ 4) (hQ : 1 < E.i 3 / 16 % 16) (hR : 4 < E.i 3 % 16) : FaOk E ⟨fa127, rrI⟩ := by
  refine faOk_of h fun c b hm => ?_
  simp only [fa127, List.mem_cons, List.not_mem_nil, or_false, Prod.mk.injEq] at hm
  rcases hm with ⟨rfl, rfl⟩ | ⟨rfl, rfl⟩ | ⟨rfl, rfl⟩ | ⟨rfl, rfl⟩ | ⟨rfl, rfl⟩ | ⟨rfl, rfl⟩ | ⟨rfl, rfl⟩ | ⟨rfl, rfl⟩ | ⟨rfl, rfl⟩ | ⟨rfl, rfl⟩ | ⟨rfl, rfl⟩ | ⟨rfl, rfl⟩ | ⟨rfl, rfl⟩ | ⟨rfl, rfl⟩ | ⟨rfl, rfl⟩
  · rw [d0 h]; have := h.b3; exact decide_eq_true (by omega)
  · rw [d1 h]; have := h.b3; exact decide_eq_false (by omega)
  · rw [d17 h]; have := h.b3; exact decide_eq_false (by omega)
  · rw [d2 h]; have := h.b3; exact decide_eq_false (by omega)
  · rw [d14 h]; have := h.b3; exact decide_eq_false (by omega)
  · rw [d3 h]; have := h.b3; exact decide_eq_false (by omega)
  · rw [d4 h]; have := h.b3; exact decide_eq_true (by omega)
  · rw [d5 h]; have := h.b3; exact decide_eq_false (by omega)
  · rw [d6 h]; have := h.b3; exact decide_eq_true (by omega)
  · rw [d36 h]; have := h.b0; have := h.b1; have := h.b2; unfold valA; simp only [SE.den, arAdd, arMul, arRem, IntKind.wrap_u64, IntKind.wrap_i64, clI, tmod_pos (show 0 ≤ E.i 0 by omega)]; exact decide_eq_false (by simp only [Decidable.not_not]; (repeat' split) <;> omega)
  · rw [d8 h]; have := h.b3; exact decide_eq_false (by omega)
  · rw [d13 h]; have := h.b3; exact decide_eq_false (by simp only [clI]; (repeat' split) <;> omega)
  · rw [d12 h]; have := h.b3; exact decide_eq_false (by simp only [clI]; (repeat' split) <;> omega)
  · rw [d11 h]; have := h.b3; exact decide_eq_true (by omega)
  · rw [d24 h]; have := h.b3; exact decide_eq_false (by omega)
theorem h128 (h : BdI E) (hL : 1099511627776 ≤ E.i 0) (hC : 0 ≤ E.i 1 ∧ E.i 1 ≤ 1) (hN : 4 < E.i 2) (hQ : E.i 3 / 16 % 16 ≤ 1) (hR : E.i 3 % 16 ≤ 4) : FaOk E ⟨fa128, rrI⟩ := by
  refine faOk_of h fun c b hm => ?_
  simp only [fa128, List.mem_cons, List.not_mem_nil, or_false, Prod.mk.injEq] at hm
  rcases hm with ⟨rfl, rfl⟩ | ⟨rfl, rfl⟩ | ⟨rfl, rfl⟩ | ⟨rfl, rfl⟩ | ⟨rfl, rfl⟩ | ⟨rfl, rfl⟩ | ⟨rfl, rfl⟩ | ⟨rfl, rfl⟩ | ⟨rfl, rfl⟩ | ⟨rfl, rfl⟩ | ⟨rfl, rfl⟩ | ⟨rfl, rfl⟩ | ⟨rfl, rfl⟩ | ⟨rfl, rfl⟩ | ⟨rfl, rfl⟩
  · rw [d0 h]; have := h.b3; exact decide_eq_true (by omega)
  · rw [d1 h]; have := h.b3; exact decide_eq_false (by omega)
  · rw [d17 h]; have := h.b3; exact decide_eq_false (by omega)
  · rw [d2 h]; have := h.b3; exact decide_eq_false (by omega)
  · rw [d14 h]; have := h.b3; exact decide_eq_true (by omega)
  · rw [d3 h]; have := h.b3; exact decide_eq_false (by omega)
  · rw [d4 h]; have := h.b3; exact decide_eq_false (by omega)
  · rw [d5 h]; have := h.b3; exact decide_eq_false (by omega)
  · rw [d6 h]; have := h.b3; exact decide_eq_false (by omega)
  · rw [d37 h]; have := h.b0; have := h.b1; have := h.b2; unfold valA; simp only [SE.den, arAdd, arMul, arRem, IntKind.wrap_u64, IntKind.wrap_i64, clI, tmod_pos (show 0 ≤ E.i 0 by omega)]; exact decide_eq_false (by simp only [Decidable.not_not]; (repeat' split) <;> omega)
  · rw [d8 h]; have := h.b3; exact decide_eq_false (by omega)
  · rw [d9 h]; have := h.b3; exact decide_eq_false (by simp only [clI]; (repeat' split) <;> omega)
  · rw [d10 h]; have := h.b3; exact decide_eq_false (by simp only [clI]; (repeat' split) <;> omega)
  · rw [d11 h]; have := h.b3; exact decide_eq_true (by omega)
  · rw [d24 h]; have := h.b3; exact decide_eq_false (by omega)
theorem h129 (h : BdI E) (hL : 1099511627776 ≤ E.i 0) (hC : 0 ≤ E.i 1 ∧ E.i 1 ≤ 1) (hN : 4 < E.i 2) (hQ : E.i 3 / 16 % 16 ≤ 1) (hR : 4 < E.i 3 % 16) : FaOk E ⟨fa129, rrI⟩ := by
  refine faOk_of h fun c b hm => ?_
  simp only [fa129, List.mem_cons, List.not_mem_nil, or_false, Prod.mk.injEq] at hm
  rcases hm with ⟨rfl, rfl⟩ | ⟨rfl, rfl⟩ | ⟨rfl, rfl⟩ | ⟨rfl, rfl⟩ | ⟨rfl, rfl⟩ | ⟨rfl, rfl⟩ | ⟨rfl, rfl⟩ | ⟨rfl, rfl⟩ | ⟨rfl, rfl⟩ | ⟨rfl, rfl⟩ | ⟨rfl, rfl⟩ | ⟨rfl, rfl⟩ | ⟨rfl, rfl⟩ | ⟨rfl, rfl⟩ | ⟨rfl, rfl⟩
  · rw [d0 h]; have := h.b3; exact decide_eq_true (by omega)
  · rw [d1 h]; have := h.b3; exact decide_eq_false (by omega)
  · rw [d17 h]; have := h.b3; exact decide_eq_false (by omega)
  · rw [d2 h]; have := h.b3; exact decide_eq_false (by omega)
  · rw [d14 h]; have := h.b3; exact decide_eq_true (by omega)
  · rw [d3 h]; have := h.b3; exact decide_eq_false (by omega)
  · rw [d4 h]; have := h.b3; exact decide_eq_false (by omega)
  · rw [d5 h]; have := h.b3; exact decide_eq_false (by omega)
  · rw [d6 h]; have := h.b3; exact decide_eq_true (by omega)
  · rw [d37 h]; have := h.b0; have := h.b1; have := h.b2; unfold valA; simp only [SE.den, arAdd, arMul, arRem, IntKind.wrap_u64, IntKind.wrap_i64, clI, tmod_pos (show 0 ≤ E.i 0 by omega)]; exact decide_eq_false (by simp only [Decidable.not_not]; (repeat' split) <;> omega)
  · rw [d8 h]; have := h.b3; exact decide_eq_false (by omega)
  · rw [d9 h]; have := h.b3; exact decide_eq_false (by simp only [clI]; (repeat' split) <;> omega)
  · rw [d12 h]; have := h.b3; exact decide_eq_false (by simp only [clI]; (repeat' split) <;> omega)
  · rw [d11 h]; have := h.b3; exact decide_eq_true (by omega)
  · rw [d24 h]; have := h.b3; exact decide_eq_false (by omega)
theorem h130 (h : BdI E) (hL : 1099511627776 ≤ E.i 0) (hC : 0 ≤ E.i 1 ∧ E.i 1 ≤ 1) (hN : 4 < E.i 2) (hQ : 1 < E.i 3 / 16 % 16) (hR : E.i 3 % 16 ≤ 4) : FaOk E ⟨fa130, rrI⟩ := by
  refine faOk_of h fun c b hm => ?_
  simp only [fa130, List.mem_cons, List.not_mem_nil, or_false, Prod.mk.injEq] at hm
  rcases hm with ⟨rfl, rfl⟩ | ⟨rfl, rfl⟩ | ⟨rfl, rfl⟩ | ⟨rfl, rfl⟩ | ⟨rfl, rfl⟩ | ⟨rfl, rfl⟩ | ⟨rfl, rfl⟩ | ⟨rfl, rfl⟩ | ⟨rfl, rfl⟩ | ⟨rfl, rfl⟩ | ⟨rfl, rfl⟩ | ⟨rfl, rfl⟩ | ⟨rfl, rfl⟩ | ⟨rfl, rfl⟩ | ⟨rfl, rfl⟩
  · rw [d0 h]; have := h.b3; exact decide_eq_true (by omega)
  · rw [d1 h]; have := h.b3; exact decide_eq_false (by omega)
  · rw [d17 h]; have := h.b3; exact decide_eq_false (by omega)
  · rw [d2 h]; have := h.b3; exact decide_eq_false (by omega)
  · rw [d14 h]; have := h.b3; exact decide_eq_true (by omega)
  · rw [d3 h]; have := h.b3; exact decide_eq_false (by omega)
  · rw [d4 h]; have := h.b3; exact decide_eq_true (by omega)
  · rw [d5 h]; have := h.b3; exact decide_eq_false (by omega)
  · rw [d6 h]; have := h.b3; exact decide_eq_false (by omega)
  · rw [d37 h]; have := h.b0; have := h.b1; have := h.b2; unfold valA; simp only [SE.den, arAdd, arMul, arRem, IntKind.wrap_u64, IntKind.wrap_i64, clI, tmod_pos (show 0 ≤ E.i 0 by omega)]; exact decide_eq_false (by simp only [Decidable.not_not]; (repeat' split) <;> omega)
  · rw [d8 h]; have := h.b3; exact decide_eq_false (by omega)
  · rw [d13 h]; have := h.b3; exact decide_eq_false (by simp only [clI]; (repeat' split) <;> omega)
  · rw [d10 h]; have := h.b3; exact decide_eq_false (by simp only [clI]; (repeat' split) <;> omega)
  · rw [d11 h]; have := h.b3; exact decide_eq_true (by omega)
  · rw [d24 h]; have := h.b3; exact decide_eq_false (by omega)
theorem h131 (h : BdI E) (hL : 1099511627776 ≤ E.i 0) (hC : 0 ≤ E.i 1 ∧ E.i 1 ≤ 1) (hN : 4 < E.i 2) (hQ : 1 < E.i 3 / 16 % 16) (hR : 4 < E.i 3 % 16) : FaOk E ⟨fa131, rrI⟩ := by
  refine faOk_of h fun c b hm => ?_
  simp only [fa131, List.mem_cons, List.not_mem_nil, or_false, Prod.mk.injEq] at hm
  rcases hm with ⟨rfl, rfl⟩ | ⟨rfl, rfl⟩ | ⟨rfl, rfl⟩ | ⟨rfl, rfl⟩ | ⟨rfl, rfl⟩ | ⟨rfl, rfl⟩ | ⟨rfl, rfl⟩ | ⟨rfl, rfl⟩ | ⟨rfl, rfl⟩ | ⟨rfl, rfl⟩ | ⟨rfl, rfl⟩ | ⟨rfl, rfl⟩ | ⟨rfl, rfl⟩ | ⟨rfl, rfl⟩ | ⟨rfl, rfl⟩
  · rw [d0 h]; have := h.b3; exact decide_eq_true (by omega)
  · rw [d1 h]; have := h.b3; exact decide_eq_false (by omega)
  · rw [d17 h]; have := h.b3; exact decide_eq_false (by omega)
  · rw [d2 h]; have := h.b3; exact decide_eq_false (by omega)
  · rw [d14 h]; have := h.b3; exact decide_eq_true (by omega)
  · rw [d3 h]; have := h.b3; exact decide_eq_false (by omega)
  · rw [d4 h]; have := h.b3; exact decide_eq_true (by omega)
  · rw [d5 h]; have := h.b3; exact decide_eq_false (by omega)
  · rw [d6 h]; have := h.b3; exact decide_eq_true (by omega)
  · rw [d37 h]; have := h.b0; have := h.b1; have := h.b2; unfold valA; simp only [SE.den, arAdd, arMul, arRem, IntKind.wrap_u64, IntKind.wrap_i64, clI, tmod_pos (show 0 ≤ E.i 0 by omega)]; exact decide_eq_false (by simp only [Decidable.not_not]; (repeat' split) <;> omega)
  · rw [d8 h]; have := h.b3; exact decide_eq_false (by omega)
  · rw [d13 h]; have := h.b3; exact decide_eq_false (by simp only [clI]; (repeat' split) <;> omega)
  · rw [d12 h]; have := h.b3; exact decide_eq_false (by simp only [clI]; (repeat' split) <;> omega)
  · rw [d11 h]; have := h.b3; exact decide_eq_true (by omega)
  · rw [d24 h]; have := h.b3; exact decide_eq_false (by omega)
theorem h132 (h : BdI E) (hL : 1099511627776 ≤ E.i 0) (hC : 1 < E.i 1) (hN : E.i 2 < 0) (hQ : E.i 3 / 16 % 16 ≤ 1) (hR : E.i 3 % 16 ≤ 4) : FaOk E ⟨fa132, rrI⟩ := by
  refine faOk_of h fun c b hm => ?_
  simp only [fa132, List.mem_cons, List.not_mem_nil, or_false, Prod.mk.injEq] at hm
  rcases hm with ⟨rfl, rfl⟩ | ⟨rfl, rfl⟩ | ⟨rfl, rfl⟩ | ⟨rfl, rfl⟩ | ⟨rfl, rfl⟩ | ⟨rfl, rfl⟩ | ⟨rfl, rfl⟩ | ⟨rfl, rfl⟩ | ⟨rfl, rfl⟩ | ⟨rfl, rfl⟩ | ⟨rfl, rfl⟩ | ⟨rfl, rfl⟩ | ⟨rfl, rfl⟩ | ⟨rfl, rfl⟩
  · rw [d0 h]; have := h.b3; exact decide_eq_true (by omega)
  · rw [d1 h]; have := h.b3; exact decide_eq_false (by omega)
  · rw [d17 h]; have := h.b3; exact decide_eq_true (by omega)
  · rw [d2 h]; have := h.b3; exact decide_eq_true (by omega)
  · rw [d3 h]; have := h.b3; exact decide_eq_false (by omega)
  · rw [d4 h]; have := h.b3; exact decide_eq_false (by omega)
  · rw [d5 h]; have := h.b3; exact decide_eq_false (by omega)
  · rw [d6 h]; have := h.b3; exact decide_eq_false (by omega)
  · rw [d38 h]; have := h.b0; have := h.b1; have := h.b2; unfold valA; simp only [SE.den, arAdd, arMul, arRem, IntKind.wrap_u64, IntKind.wrap_i64, clI, tmod_pos (show 0 ≤ E.i 0 by omega)]; exact decide_eq_false (by simp only [Decidable.not_not]; (repeat' split) <;> omega)
  · rw [d8 h]; have := h.b3; exact decide_eq_false (by omega)
  · rw [d9 h]; have := h.b3; exact decide_eq_false (by simp only [clI]; (repeat' split) <;> omega)
  · rw [d10 h]; have := h.b3; exact decide_eq_false (by simp only [clI]; (repeat' split) <;> omega)
  · rw [d11 h]; have := h.b3; exact decide_eq_true (by omega)
  · rw [d24 h]; have := h.b3; exact decide_eq_false (by omega)
theorem h133 (h : BdI E) (hL : 1099511627776 ≤ E.i 0) (hC : 1 < E.i 1) (hN : E.i 2 < 0) (hQ : E.i 3 / 16 % 16 ≤ 1) (hR : 4 < E.i 3 % 16) : FaOk E ⟨fa133, rrI⟩ := by
  refine faOk_of h fun c b hm => ?_
  simp only [fa133, List.mem_cons, List.not_mem_nil, or_false, Prod.mk.injEq] at hm
  rcases hm with ⟨rfl, rfl⟩ | ⟨rfl, rfl⟩ | ⟨rfl, rfl⟩ | ⟨rfl, rfl⟩ | ⟨rfl, rfl⟩ | ⟨rfl, rfl⟩ | ⟨rfl, rfl⟩ | ⟨rfl, rfl⟩ | ⟨rfl, rfl⟩ | ⟨rfl, rfl⟩ | ⟨rfl, rfl⟩ | ⟨rfl, rfl⟩ | ⟨rfl, rfl⟩ | ⟨rfl, rfl⟩
  · rw [d0 h]; have := h.b3; exact decide_eq_true (by omega)
  · rw [d1 h]; have := h.b3; exact decide_eq_false (by omega)
  · rw [d17 h]; have := h.b3; exact decide_eq_true (by omega)
  · rw [d2 h]; have := h.b3; exact decide_eq_true (by omega)
  · rw [d3 h]; have := h.b3; exact decide_eq_false (by omega)
  · rw [d4 h]; have := h.b3; exact decide_eq_false (by omega)
  · rw [d5 h]; have := h.b3; exact decide_eq_false (by omega)
  · rw [d6 h]; have := h.b3; exact decide_eq_true (by omega)
  · rw [d38 h]; have := h.b0; have := h.b1; have := h.b2; unfold valA; simp only [SE.den, arAdd, arMul, arRem, IntKind.wrap_u64, IntKind.wrap_i64, clI, tmod_pos (show 0 ≤ E.i 0 by omega)]; exact decide_eq_false (by simp only [Decidable.not_not]; (repeat' split) <;> omega)
  · rw [d8 h]; have := h.b3; exact decide_eq_false (by omega)
  · rw [d9 h]; have := h.b3; exact decide_eq_false (by simp only [clI]; (repeat' split) <;> omega)
  · rw [d12 h]; have := h.b3; exact decide_eq_false (by simp only [clI]; (repeat' split) <;> omega)
  · rw [d11 h]; have := h.b3; exact decide_eq_true (by omega)
  · rw [d24 h]; have := h.b3; exact decide_eq_false (by omega)
theorem h134 (h : BdI E) (hL : 1099511627776 ≤ E.i 0) (hC : 1 < E.i 1) (hN : E.i 2 < 0) (hQ : 1 < E.i 3 / 16 % 16) (hR : E.i 3 % 16 ≤ 4) : FaOk E ⟨fa134, rrI⟩ := by
  refine faOk_of h fun c b hm => ?_
  simp only [fa134, List.mem_cons, List.not_mem_nil, or_false, Prod.mk.injEq] at hm
  rcases hm with ⟨rfl, rfl⟩ | ⟨rfl, rfl⟩ | ⟨rfl, rfl⟩ | ⟨rfl, rfl⟩ | ⟨rfl, rfl⟩ | ⟨rfl, rfl⟩ | ⟨rfl, rfl⟩ | ⟨rfl, rfl⟩ | ⟨rfl, rfl⟩ | ⟨rfl, rfl⟩ | ⟨rfl, rfl⟩ | ⟨rfl, rfl⟩ | ⟨rfl, rfl⟩ | ⟨rfl, rfl⟩
  · rw [d0 h]; have := h.b3; exact decide_eq_true (by omega)
  · rw [d1 h]; have := h.b3; exact decide_eq_false (by omega)
  · rw [d17 h]; have := h.b3; exact decide_eq_true (by omega)
  · rw [d2 h]; have := h.b3; exact decide_eq_true (by omega)
  · rw [d3 h]; have := h.b3; exact decide_eq_false (by omega)
  · rw [d4 h]; have := h.b3; exact decide_eq_true (by omega)
  · rw [d5 h]; have := h.b3; exact decide_eq_false (by omega)
  · rw [d6 h]; have := h.b3; exact decide_eq_false (by omega)
  · rw [d38 h]; have := h.b0; have := h.b1; have := h.b2; unfold valA; simp only [SE.den, arAdd, arMul, arRem, IntKind.wrap_u64, IntKind.wrap_i64, clI, tmod_pos (show 0 ≤ E.i 0 by omega)]; exact decide_eq_false (by simp only [Decidable.not_not]; (repeat' split) <;> omega)
  · rw [d8 h]; have := h.b3; exact decide_eq_false (by omega)
  · rw [d13 h]; have := h.b3; exact decide_eq_false (by simp only [clI]; (repeat' split) <;> omega)
  · rw [d10 h]; have := h.b3; exact decide_eq_false (by simp only [clI]; (repeat' split) <;> omega)
  · rw [d11 h]; have := h.b3; exact decide_eq_true (by omega)
  · rw [d24 h]; have := h.b3; exact decide_eq_false (by omega)
theorem h135 (h : BdI E) (hL : 1099511627776 ≤ E.i 0) (hC : 1 < E.i 1) (hN : E.i 2 < 0) (hQ : 1 < E.i 3 / 16 % 16) (hR : 4 < E.i 3 % 16) : FaOk E ⟨fa135, rrI⟩ := by
  refine faOk_of h fun c b hm => ?_
  simp only [fa135, List.mem_cons, List.not_mem_nil, or_false, Prod.mk.injEq] at hm
  rcases hm with ⟨rfl, rfl⟩ | ⟨rfl, rfl⟩ | ⟨rfl, rfl⟩ | ⟨rfl, rfl⟩ | ⟨rfl, rfl⟩ | ⟨rfl, rfl⟩ | ⟨rfl, rfl⟩ | ⟨rfl, rfl⟩ | ⟨rfl, rfl⟩ | ⟨rfl, rfl⟩ | ⟨rfl, rfl⟩ | ⟨rfl, rfl⟩ | ⟨rfl, rfl⟩ | ⟨rfl, rfl⟩
  · rw [d0 h]; have := h.b3; exact decide_eq_true (by omega)
  · rw [d1 h]; have := h.b3; exact decide_eq_false (by omega)
  · rw [d17 h]; have := h.b3; exact decide_eq_true (by omega)
  · rw [d2 h]; have := h.b3; exact decide_eq_true (by omega)
  · rw [d3 h]; have := h.b3; exact decide_eq_false (by omega)
  · rw [d4 h]; have := h.b3; exact decide_eq_true (by omega)
  · rw [d5 h]; have := h.b3; exact decide_eq_false (by omega)
  · rw [d6 h]; have := h.b3; exact decide_eq_true (by omega)
  · rw [d38 h]; have := h.b0; have := h.b1; have := h.b2; unfold valA; simp only [SE.den, arAdd, arMul, arRem, IntKind.wrap_u64, IntKind.wrap_i64, clI, tmod_pos (show 0 ≤ E.i 0 by omega)]; exact decide_eq_false (by simp only [Decidable.not_not]; (repeat' split) <;> omega)
  · rw [d8 h]; have := h.b3; exact decide_eq_false (by omega)
  · rw [d13 h]; have := h.b3; exact decide_eq_false (by simp only [clI]; (repeat' split) <;> omega)
  · rw [d12 h]; have := h.b3; exact decide_eq_false (by simp only [clI]; (repeat' split) <;> omega)
  · rw [d11 h]; have := h.b3; exact decide_eq_true (by omega)
  · rw [d24 h]; have := h.b3; exact decide_eq_false (by omega)
theorem h136 (h : BdI E) (hL : 1099511627776 ≤ E.i 0) (hC : 1 < E.i 1) (hN : 0 ≤ E.i 2 ∧ E.i 2 ≤ 4) (hQ : E.i 3 / 16 % 16 ≤ 1) (hR : E.i 3 % 16 ≤ 4) : FaOk E ⟨fa136, rrI⟩ := by
  refine faOk_of h fun c b hm => ?_
  simp only [fa136, List.mem_cons, List.not_mem_nil, or_false, Prod.mk.injEq] at hm
  rcases hm with ⟨rfl, rfl⟩ | ⟨rfl, rfl⟩ | ⟨rfl, rfl⟩ | ⟨rfl, rfl⟩ | ⟨rfl, rfl⟩ | ⟨rfl, rfl⟩ | ⟨rfl, rfl⟩ | ⟨rfl, rfl⟩ | ⟨rfl, rfl⟩ | ⟨rfl, rfl⟩ | ⟨rfl, rfl⟩ | ⟨rfl, rfl⟩ | ⟨rfl, rfl⟩ | ⟨rfl, rfl⟩ | ⟨rfl, rfl⟩
  · rw [d0 h]; have := h.b3; exact decide_eq_true (by omega)
  · rw [d1 h]; have := h.b3; exact decide_eq_false (by omega)
  · rw [d17 h]; have := h.b3; exact decide_eq_true (by omega)
  · rw [d2 h]; have := h.b3; exact decide_eq_false (by omega)
  · rw [d14 h]; have := h.b3; exact decide_eq_false (by omega)
  · rw [d3 h]; have := h.b3; exact decide_eq_false (by omega)
  · rw [d4 h]; have := h.b3; exact decide_eq_false (by omega)
  · rw [d5 h]; have := h.b3; exact decide_eq_false (by omega)
  · rw [d6 h]; have := h.b3; exact decide_eq_false (by omega)
  · rw [d39 h]; have := h.b0; have := h.b1; have := h.b2; unfold valA; simp only [SE.den, arAdd, arMul, arRem, IntKind.wrap_u64, IntKind.wrap_i64, clI, tmod_pos (show 0 ≤ E.i 0 by omega)]; exact decide_eq_false (by simp only [Decidable.not_not]; (repeat' split) <;> omega)
  · rw [d8 h]; have := h.b3; exact decide_eq_false (by omega)
  · rw [d9 h]; have := h.b3; exact decide_eq_false (by simp only [clI]; (repeat' split) <;> omega)
  · rw [d10 h]; have := h.b3; exact decide_eq_false (by simp only [clI]; (repeat' split) <;> omega)
  · rw [d11 h]; have := h.b3; exact decide_eq_true (by omega)
  · rw [d24 h]; have := h.b3; exact decide_eq_false (by omega)
theorem h137 (h : BdI E) (hL : 1099511627776 ≤ E.i 0) (hC : 1 < E.i 1) (hN : 0 ≤ E.i 2 ∧ E.i 2 ≤ 4) (hQ : E.i 3 / 16 % 16 ≤ 1) (hR : 4 < E.i 3 % 16) : FaOk E ⟨fa137, rrI⟩ := by
  refine faOk_of h fun c b hm => ?_
  simp only [fa137, List.mem_cons, List.not_mem_nil, or_false, Prod.mk.injEq] at hm
  rcases hm with ⟨rfl, rfl⟩ | ⟨rfl, rfl⟩ | ⟨rfl, rfl⟩ | ⟨rfl, rfl⟩ | ⟨rfl, rfl⟩ | ⟨rfl, rfl⟩ | ⟨rfl, rfl⟩ | ⟨rfl, rfl⟩ | ⟨rfl, rfl⟩ | ⟨rfl, rfl⟩ | ⟨rfl, rfl⟩ | ⟨rfl, rfl⟩ | ⟨rfl, rfl⟩ | ⟨rfl, rfl⟩ | ⟨rfl, rfl⟩
  · rw [d0 h]; have := h.b3; exact decide_eq_true (by omega)
  · rw [d1 h]; have := h.b3; exact decide_eq_false (by omega)
  · rw [d17 h]; have := h.b3; exact decide_eq_true (by omega)
  · rw [d2 h]; have := h.b3; exact decide_eq_false (by omega)
  · rw [d14 h]; have := h.b3; exact decide_eq_false (by omega)
  · rw [d3 h]; have := h.b3; exact decide_eq_false (by omega)
  · rw [d4 h]; have := h.b3; exact decide_eq_false (by omega)
  · rw [d5 h]; have := h.b3; exact decide_eq_false (by omega)
  · rw [d6 h]; have := h.b3; exact decide_eq_true (by omega)
  · rw [d39 h]; have := h.b0; have := h.b1; have := h.b2; unfold valA; simp only [SE.den, arAdd, arMul, arRem, IntKind.wrap_u64, IntKind.wrap_i64, clI, tmod_pos (show 0 ≤ E.i 0 by omega)]; exact decide_eq_false (by simp only [Decidable.not_not]; (repeat' split) <;> omega)
  · rw [d8 h]; have := h.b3; exact decide_eq_false (by omega)
  · rw [d9 h]; have := h.b3; exact decide_eq_false (by simp only [clI]; (repeat' split) <;> omega)
  · rw [d12 h]; have := h.b3; exact decide_eq_false (by simp only [clI]; (repeat' split) <;> omega)
  · rw [d11 h]; have := h.b3; exact decide_eq_true (by omega)
  · rw [d24 h]; have := h.b3; exact decide_eq_false (by omega)
theorem h138 (h : BdI E) (hL : 1099511627776 ≤ E.i 0) (hC : 1 < E.i 1) (hN : 0 ≤ E.i 2 ∧ E.i 2 ≤ 4) (hQ : 1 < E.i 3 / 16 % 16) (hR : E.i 3 % 16 ≤ 4) : FaOk E ⟨fa138, rrI⟩ := by
  refine faOk_of h fun c b hm => ?_
  simp only [fa138, List.mem_cons, List.not_mem_nil, or_false, Prod.mk.injEq] at hm
  rcases hm with ⟨rfl, rfl⟩ | ⟨rfl, rfl⟩ | ⟨rfl, rfl⟩ | ⟨rfl, rfl⟩ | ⟨rfl, rfl⟩ | ⟨rfl, rfl⟩ | ⟨rfl, rfl⟩ | ⟨rfl, rfl⟩ | ⟨rfl, rfl⟩ | ⟨rfl, rfl⟩ | ⟨rfl, rfl⟩ | ⟨rfl, rfl⟩ | ⟨rfl, rfl⟩ | ⟨rfl, rfl⟩ | ⟨rfl, rfl⟩
  · rw [d0 h]; have := h.b3; exact decide_eq_true (by omega)
  · rw [d1 h]; have := h.b3; exact decide_eq_false (by omega)
  · rw [d17 h]; have := h.b3; exact decide_eq_true (by omega)
  · rw [d2 h]; have := h.b3; exact decide_eq_false (by omega)
  · rw [d14 h]; have := h.b3; exact decide_eq_false (by omega)
  · rw [d3 h]; have := h.b3; exact decide_eq_false (by omega)
  · rw [d4 h]; have := h.b3; exact decide_eq_true (by omega)
  · rw [d5 h]; have := h.b3; exact decide_eq_false (by omega)
  · rw [d6 h]; have := h.b3; exact decide_eq_false (by omega)
  · rw [d39 h]; have := h.b0; have := h.b1; have := h.b2; unfold valA; simp only [SE.den, arAdd, arMul, arRem, IntKind.wrap_u64, IntKind.wrap_i64, clI, tmod_pos (show 0 ≤ E.i 0 by omega)]; exact decide_eq_false (by simp only [Decidable.not_not]; (repeat' split) <;> omega)
  · rw [d8 h]; have := h.b3; exact decide_eq_false (by omega)
  · rw [d13 h]; have := h.b3; exact decide_eq_false (by simp only [clI]; (repeat' split) <;> omega)
  · rw [d10 h]; have := h.b3; exact decide_eq_false (by simp only [clI]; (repeat' split) <;> omega)
  · rw [d11 h]; have := h.b3; exact decide_eq_true (by omega)
  · rw [d24 h]; have := h.b3; exact decide_eq_false (by omega)
theorem h139 (h : BdI E) (hL : 1099511627776 ≤ E.i 0) (hC : 1 < E.i 1) (hN : 0 ≤ E.i 2 ∧ E.i 2 ≤ 4) (hQ : 1 < E.i 3 / 16 % 16) (hR : 4 < E.i 3 % 16) : FaOk E ⟨fa139, rrI⟩ := by
  refine faOk_of h fun c b hm => ?_
  simp only [fa139, List.mem_cons, List.not_mem_nil, or_false, Prod.mk.injEq] at hm
  rcases hm with ⟨rfl, rfl⟩ | ⟨rfl, rfl⟩ | ⟨rfl, rfl⟩ | ⟨rfl, rfl⟩ | ⟨rfl, rfl⟩ | ⟨rfl, rfl⟩ | ⟨rfl, rfl⟩ | ⟨rfl, rfl⟩ | ⟨rfl, rfl⟩ | ⟨rfl, rfl⟩ | ⟨rfl, rfl⟩ | ⟨rfl, rfl⟩ | ⟨rfl, rfl⟩ | ⟨rfl, rfl⟩ | ⟨rfl, rfl⟩
  · rw [d0 h]; have := h.b3; exact decide_eq_true (by omega)
  · rw [d1 h]; have := h.b3; exact decide_eq_false (by omega)
  · rw [d17 h]; have := h.b3; exact decide_eq_true (by omega)
  · rw [d2 h]; have := h.b3; exact decide_eq_false (by omega)
  · rw [d14 h]; have := h.b3; exact decide_eq_false (by omega)
  · rw [d3 h]; have := h.b3; exact decide_eq_false (by omega)
  · rw [d4 h]; have := h.b3; exact decide_eq_true (by omega)
  · rw [d5 h]; have := h.b3; exact decide_eq_false (by omega)
  · rw [d6 h]; have := h.b3; exact decide_eq_true (by omega)
  · rw [d39 h]; have := h.b0; have := h.b1; have := h.b2; unfold valA; simp only [SE.den, arAdd, arMul, arRem, IntKind.wrap_u64, IntKind.wrap_i64, clI, tmod_pos (show 0 ≤ E.i 0 by omega)]; exact decide_eq_false (by simp only [Decidable.not_not]; (repeat' split) <;> omega)
  · rw [d8 h]; have := h.b3; exact decide_eq_false (by omega)
  · rw [d13 h]; have := h.b3; exact decide_eq_false (by simp only [clI]; (repeat' split) <;> omega)
  · rw [d12 h]; have := h.b3; exact decide_eq_false (by simp only [clI]; (repeat' split) <;> omega)
  · rw [d11 h]; have := h.b3; exact decide_eq_true (by omega)
  · rw [d24 h]; have := h.b3; exact decide_eq_false (by omega)
theorem h140 (h : BdI E) (hL : 1099511627776 ≤ E.i 0) (hC : 1 < E.i 1) (hN : 4 < E.i 2) (hQ : E.i 3 / 16 % 16 ≤ 1) (hR : E.i 3 % 16 ≤ 4) : FaOk E ⟨fa140, rrI⟩ := by
  refine faOk_of h fun c b hm => ?_
  simp only [fa140, List.mem_cons, List.not_mem_nil, or_false, Prod.mk.injEq] at hm
  rcases hm with ⟨rfl, rfl⟩ | ⟨rfl, rfl⟩ | ⟨rfl, rfl⟩ | ⟨rfl, rfl⟩ | ⟨rfl, rfl⟩ | ⟨rfl, rfl⟩ | ⟨rfl, rfl⟩ | ⟨rfl, rfl⟩ | ⟨rfl, rfl⟩ | ⟨rfl, rfl⟩ | ⟨rfl, rfl⟩ | ⟨rfl, rfl⟩ | ⟨rfl, rfl⟩ | ⟨rfl, rfl⟩ | ⟨rfl, rfl⟩
  · rw [d0 h]; have := h.b3; exact decide_eq_true (by omega)
  · rw [d1 h]; have := h.b3; exact decide_eq_false (by omega)
  · rw [d17 h]; have := h.b3; exact decide_eq_true (by omega)
  · rw [d2 h]; have := h.b3; exact decide_eq_false (by omega)
  · rw [d14 h]; have := h.b3; exact decide_eq_true (by omega)
  · rw [d3 h]; have := h.b3; exact decide_eq_false (by omega)
  · rw [d4 h]; have := h.b3; exact decide_eq_false (by omega)
  · rw [d5 h]; have := h.b3; exact decide_eq_false (by omega)
  · rw [d6 h]; have := h.b3; exact decide_eq_false (by omega)
  · rw [d40 h]; have := h.b0; have := h.b1; have := h.b2; unfold valA; simp only [SE.den, arAdd, arMul, arRem, IntKind.wrap_u64, IntKind.wrap_i64, clI, tmod_pos (show 0 ≤ E.i 0 by omega)]; exact decide_eq_false (by simp only [Decidable.not_not]; (repeat' split) <;> omega)
  · rw [d8 h]; have := h.b3; exact decide_eq_false (by omega)
  · rw [d9 h]; have := h.b3; exact decide_eq_false (by simp only [clI]; (repeat' split) <;> omega)
  · rw [d10 h]; have := h.b3; exact decide_eq_false (by simp only [clI]; (repeat' split) <;> omega)
  · rw [d11 h]; have := h.b3; exact decide_eq_true (by omega)
  · rw [d24 h]; have := h.b3; exact decide_eq_false (by omega)
theorem h141 (h : BdI E) (hL : 1099511627776 ≤ E.i 0) (hC : 1 < E.i 1) (hN : 4 < E.i 2) (hQ : E.i 3 / 16 % 16 ≤ 1) (hR : 4 < E.i 3 % 16) : FaOk E ⟨fa141, rrI⟩ := by
  refine faOk_of h fun c b hm => ?_
  simp only [fa141, List.mem_cons, List.not_mem_nil, or_false, Prod.mk.injEq] at hm
  rcases hm with ⟨rfl, rfl⟩ | ⟨rfl, rfl⟩ | ⟨rfl, rfl⟩ | ⟨rfl, rfl⟩ | ⟨rfl, rfl⟩ | ⟨rfl, rfl⟩ | ⟨rfl, rfl⟩ | ⟨rfl, rfl⟩ | ⟨rfl, rfl⟩ | ⟨rfl, rfl⟩ | ⟨rfl, rfl⟩ | ⟨rfl, rfl⟩ | ⟨rfl, rfl⟩ | ⟨rfl, rfl⟩ | ⟨rfl, rfl⟩
  · rw [d0 h]; have := h.b3; exact decide_eq_true (by omega)
  · rw [d1 h]; have := h.b3; exact decide_eq_false (by omega)
  · rw [d17 h]; have := h.b3; exact decide_eq_true (by omega)
  · rw [d2 h]; have := h.b3; exact decide_eq_false (by omega)
  · rw [d14 h]; have := h.b3; exact decide_eq_true (by omega)
  · rw [d3 h]; have := h.b3; exact decide_eq_false (by omega)
  · rw [d4 h]; have := h.b3; exact decide_eq_false (by omega)
  · rw [d5 h]; have := h.b3; exact decide_eq_false (by omega)
  · rw [d6 h]; have := h.b3; exact decide_eq_true (by omega)
  · rw [d40 h]; have := h.b0; have := h.b1; have := h.b2; unfold valA; simp only [SE.den, arAdd, arMul, arRem, IntKind.wrap_u64, IntKind.wrap_i64, clI, tmod_pos (show 0 ≤ E.i 0 by omega)]; exact decide_eq_false (by simp only [Decidable.not_not]; (repeat' split) <;> omega)
  · rw [d8 h]; have := h.b3; exact decide_eq_false (by omega)
  · rw [d9 h]; have := h.b3; exact decide_eq_false (by simp only [clI]; (repeat' split) <;> omega)
  · rw [d12 h]; have := h.b3; exact decide_eq_false (by simp only [clI]; (repeat' split) <;> omega)
  · rw [d11 h]; have := h.b3; exact decide_eq_true (by omega)
  · rw [d24 h]; have := h.b3; exact decide_eq_false (by omega)
theorem h142 (h : BdI E) (hL : 1099511627776 ≤ E.i 0) (hC : 1 < E.i 1) (hN : 4 < E.i 2) (hQ : 1 < E.i 3 / 16 % 16) (hR : E.i 3 % 16 ≤ 4) : FaOk E ⟨fa142, rrI⟩ := by
  refine faOk_of h fun c b hm => ?_
  simp only [fa142, List.mem_cons, List.not_mem_nil, or_false, Prod.mk.injEq] at hm
  rcases hm with ⟨rfl, rfl⟩ | ⟨rfl, rfl⟩ | ⟨rfl, rfl⟩ | ⟨rfl, rfl⟩ | ⟨rfl, rfl⟩ | ⟨rfl, rfl⟩ | ⟨rfl, rfl⟩ | ⟨rfl, rfl⟩ | ⟨rfl, rfl⟩ | ⟨rfl, rfl⟩ | ⟨rfl, rfl⟩ | ⟨rfl, rfl⟩ | ⟨rfl, rfl⟩ | ⟨rfl, rfl⟩ | ⟨rfl, rfl⟩
  · rw [d0 h]; have := h.b3; exact decide_eq_true (by omega)
  · rw [d1 h]; have := h.b3; exact decide_eq_false (by omega)
  · rw [d17 h]; have := h.b3; exact decide_eq_true (by omega)
  · rw [d2 h]; have := h.b3; exact decide_eq_false (by omega)
  · rw [d14 h]; have := h.b3; exact decide_eq_true (by omega)
  · rw [d3 h]; have := h.b3; exact decide_eq_false (by omega)
  · rw [d4 h]; have := h.b3; exact decide_eq_true (by omega)
  · rw [d5 h]; have := h.b3; exact decide_eq_false (by omega)
  · rw [d6 h]; have := h.b3; exact decide_eq_false (by omega)
  · rw [d40 h]; have := h.b0; have := h.b1; have := h.b2; unfold valA; simp only [SE.den, arAdd, arMul, arRem, IntKind.wrap_u64, IntKind.wrap_i64, clI, tmod_pos (show 0 ≤ E.i 0 by omega)]; exact decide_eq_false (by simp only [Decidable.not_not]; (repeat' split) <;> omega)
  · rw [d8 h]; have := h.b3; exact decide_eq_false (by omega)
  · rw [d13 h]; have := h.b3; exact decide_eq_false (by simp only [clI]; (repeat' split) <;> omega)
  · rw [d10 h]; have := h.b3; exact decide_eq_false (by simp only [clI]; (repeat' split) <;> omega)
  · rw [d11 h]; have := h.b3; exact decide_eq_true (by omega)
  · rw [d24 h]; have := h.b3; exact decide_eq_false (by omega)
theorem h143 (h : BdI E) (hL : 1099511627776 ≤ E.i 0) (hC : 1 < E.i 1) (hN : 4 < E.i 2) (hQ : 1 < E.i 3 / 16 % 16) (hR : 4 < E.i 3 % 16) : FaOk E ⟨fa143, rrI⟩ := by
  refine faOk_of h fun c b hm => ?_
  simp only [fa143, List.mem_cons, List.not_mem_nil, or_false, Prod.mk.injEq] at hm
  rcases hm with ⟨rfl, rfl⟩ | ⟨rfl, rfl⟩ | ⟨rfl, rfl⟩ | ⟨rfl, rfl⟩ | ⟨rfl, rfl⟩ | ⟨rfl, rfl⟩ | ⟨rfl, rfl⟩ | ⟨rfl, rfl⟩ | ⟨rfl, rfl⟩ | ⟨rfl, rfl⟩ | ⟨rfl, rfl⟩ | ⟨rfl, rfl⟩ | ⟨rfl, rfl⟩ | ⟨rfl, rfl⟩ | ⟨rfl, rfl⟩
  · rw [d0 h]; have := h.b3; exact decide_eq_true (by omega)
  · rw [d1 h]; have := h.b3; exact decide_eq_false (by omega)
  · rw [d17 h]; have := h.b3; exact decide_eq_true (by omega)
  · rw [d2 h]; have := h.b3; exact decide_eq_false (by omega)
  · rw [d14 h]; have := h.b3; exact decide_eq_true (by omega)
  · rw [d3 h]; have := h.b3; exact decide_eq_false (by omega)
  · rw [d4 h]; have := h.b3; exact decide_eq_true (by omega)
  · rw [d5 h]; have := h.b3; exact decide_eq_false (by omega)
  · rw [d6 h]; have := h.b3; exact decide_eq_true (by omega)
  · rw [d40 h]; have := h.b0; have := h.b1; have := h.b2; unfold valA; simp only [SE.den, arAdd, arMul, arRem, IntKind.wrap_u64, IntKind.wrap_i64, clI, tmod_pos (show 0 ≤ E.i 0 by omega)]; exact decide_eq_false (by simp only [Decidable.not_not]; (repeat' split) <;> omega)
  · rw [d8 h]; have := h.b3; exact decide_eq_false (by omega)
  · rw [d13 h]; have := h.b3; exact decide_eq_false (by simp only [clI]; (repeat' split) <;> omega)
  · rw [d12 h]; have := h.b3; exact decide_eq_false (by simp only [clI]; (repeat' split) <;> omega)
  · rw [d11 h]; have := h.b3; exact decide_eq_true (by omega)
  · rw [d24 h]; have := h.b3; exact decide_eq_false (by omega)
theorem cover (h : BdI E) : ∃ l ∈ faA, FaOk E ⟨l, rrI⟩ := by
  rcases (by omega : (E.i 0 < 0) ∨ (E.i 0 = 0) ∨ (0 < E.i 0 ∧ E.i 0 < 1099511627776) ∨ (1099511627776 ≤ E.i 0)) with hL | hL | hL | hL
  all_goals rcases (by omega : (E.i 1 < 0) ∨ (0 ≤ E.i 1 ∧ E.i 1 ≤ 1) ∨ (1 < E.i 1)) with hC | hC | hC
  all_goals rcases (by omega : (E.i 2 < 0) ∨ (0 ≤ E.i 2 ∧ E.i 2 ≤ 4) ∨ (4 < E.i 2)) with hN | hN | hN
  all_goals rcases (by omega : (E.i 3 / 16 % 16 ≤ 1) ∨ (1 < E.i 3 / 16 % 16)) with hQ | hQ
  all_goals rcases (by omega : (E.i 3 % 16 ≤ 4) ∨ (4 < E.i 3 % 16)) with hR | hR
  · exact ⟨fa0, by simp [faA], h0 h hL hC hN hQ hR⟩
  · exact ⟨fa1, by simp [faA], h1 h hL hC hN hQ hR⟩
  · exact ⟨fa2, by simp [faA], h2 h hL hC hN hQ hR⟩
  · exact ⟨fa3, by simp [faA], h3 h hL hC hN hQ hR⟩
  · exact ⟨fa4, by simp [faA], h4 h hL hC hN hQ hR⟩
  · exact ⟨fa5, by simp [faA], h5 h hL hC hN hQ hR⟩
  · exact ⟨fa6, by simp [faA], h6 h hL hC hN hQ hR⟩
  · exact ⟨fa7, by simp [faA], h7 h hL hC hN hQ hR⟩
  · exact ⟨fa8, by simp [faA], h8 h hL hC hN hQ hR⟩
  · exact ⟨fa9, by simp [faA], h9 h hL hC hN hQ hR⟩
  · exact ⟨fa10, by simp [faA], h10 h hL hC hN hQ hR⟩
  · exact ⟨fa11, by simp [faA], h11 h hL hC hN hQ hR⟩
  · exact ⟨fa12, by simp [faA], h12 h hL hC hN hQ hR⟩
  · exact ⟨fa13, by simp [faA], h13 h hL hC hN hQ hR⟩
  · exact ⟨fa14, by simp [faA], h14 h hL hC hN hQ hR⟩
  · exact ⟨fa15, by simp [faA], h15 h hL hC hN hQ hR⟩
  · exact ⟨fa16, by simp [faA], h16 h hL hC hN hQ hR⟩
  · exact ⟨fa17, by simp [faA], h17 h hL hC hN hQ hR⟩
  · exact ⟨fa18, by simp [faA], h18 h hL hC hN hQ hR⟩
  · exact ⟨fa19, by simp [faA], h19 h hL hC hN hQ hR⟩
  · exact ⟨fa20, by simp [faA], h20 h hL hC hN hQ hR⟩
  · exact ⟨fa21, by simp [faA], h21 h hL hC hN hQ hR⟩
  · exact ⟨fa22, by simp [faA], h22 h hL hC hN hQ hR⟩
  · exact ⟨fa23, by simp [faA], h23 h hL hC hN hQ hR⟩
  · exact ⟨fa24, by simp [faA], h24 h hL hC hN hQ hR⟩
  · exact ⟨fa25, by simp [faA], h25 h hL hC hN hQ hR⟩
  · exact ⟨fa26, by simp [faA], h26 h hL hC hN hQ hR⟩
  · exact ⟨fa27, by simp [faA], h27 h hL hC hN hQ hR⟩
  · exact ⟨fa28, by simp [faA], h28 h hL hC hN hQ hR⟩
  · exact ⟨fa29, by simp [faA], h29 h hL hC hN hQ hR⟩
  · exact ⟨fa30, by simp [faA], h30 h hL hC hN hQ hR⟩
  · exact ⟨fa31, by simp [faA], h31 h hL hC hN hQ hR⟩
  · exact ⟨fa32, by simp [faA], h32 h hL hC hN hQ hR⟩
  · exact ⟨fa33, by simp [faA], h33 h hL hC hN hQ hR⟩
  · exact ⟨fa34, by simp [faA], h34 h hL hC hN hQ hR⟩
  · exact ⟨fa35, by simp [faA], h35 h hL hC hN hQ hR⟩
  · exact ⟨fa36, by simp [faA], h36 h hL hC hN hQ hR⟩
  · exact ⟨fa37, by simp [faA], h37 h hL hC hN hQ hR⟩
  · exact ⟨fa38, by simp [faA], h38 h hL hC hN hQ hR⟩
  · exact ⟨fa39, by simp [faA], h39 h hL hC hN hQ hR⟩
  · exact ⟨fa40, by simp [faA], h40 h hL hC hN hQ hR⟩
  · exact ⟨fa41, by simp [faA], h41 h hL hC hN hQ hR⟩
  · exact ⟨fa42, by simp [faA], h42 h hL hC hN hQ hR⟩
  · exact ⟨fa43, by simp [faA], h43 h hL hC hN hQ hR⟩
  · exact ⟨fa44, by simp [faA], h44 h hL hC hN hQ hR⟩
  · exact ⟨fa45, by simp [faA], h45 h hL hC hN hQ hR⟩
  · exact ⟨fa46, by simp [faA], h46 h hL hC hN hQ hR⟩
  · exact ⟨fa47, by simp [faA], h47 h hL hC hN hQ hR⟩
  · exact ⟨fa48, by simp [faA], h48 h hL hC hN hQ hR⟩
  · exact ⟨fa49, by simp [faA], h49 h hL hC hN hQ hR⟩
  · exact ⟨fa50, by simp [faA], h50 h hL hC hN hQ hR⟩
  · exact ⟨fa51, by simp [faA], h51 h hL hC hN hQ hR⟩
  · exact ⟨fa52, by simp [faA], h52 h hL hC hN hQ hR⟩
  · exact ⟨fa53, by simp [faA], h53 h hL hC hN hQ hR⟩
  · exact ⟨fa54, by simp [faA], h54 h hL hC hN hQ hR⟩
  · exact ⟨fa55, by simp [faA], h55 h hL hC hN hQ hR⟩
  · exact ⟨fa56, by simp [faA], h56 h hL hC hN hQ hR⟩
  · exact ⟨fa57, by simp [faA], h57 h hL hC hN hQ hR⟩
  · exact ⟨fa58, by simp [faA], h58 h hL hC hN hQ hR⟩
  · exact ⟨fa59, by simp [faA], h59 h hL hC hN hQ hR⟩
  · exact ⟨fa60, by simp [faA], h60 h hL hC hN hQ hR⟩
  · exact ⟨fa61, by simp [faA], h61 h hL hC hN hQ hR⟩
  · exact ⟨fa62, by simp [faA], h62 h hL hC hN hQ hR⟩
  · exact ⟨fa63, by simp [faA], h63 h hL hC hN hQ hR⟩
  · exact ⟨fa64, by simp [faA], h64 h hL hC hN hQ hR⟩
  · exact ⟨fa65, by simp [faA], h65 h hL hC hN hQ hR⟩
  · exact ⟨fa66, by simp [faA], h66 h hL hC hN hQ hR⟩
  · exact ⟨fa67, by simp [faA], h67 h hL hC hN hQ hR⟩
  · exact ⟨fa68, by simp [faA], h68 h hL hC hN hQ hR⟩
  · exact ⟨fa69, by simp [faA], h69 h hL hC hN hQ hR⟩
  · exact ⟨fa70, by simp [faA], h70 h hL hC hN hQ hR⟩
  · exact ⟨fa71, by simp [faA], h71 h hL hC hN hQ hR⟩
  · exact ⟨fa72, by simp [faA], h72 h hL hC hN hQ hR⟩
  · exact ⟨fa73, by simp [faA], h73 h hL hC hN hQ hR⟩
  · exact ⟨fa74, by simp [faA], h74 h hL hC hN hQ hR⟩
  · exact ⟨fa75, by simp [faA], h75 h hL hC hN hQ hR⟩
  · exact ⟨fa76, by simp [faA], h76 h hL hC hN hQ hR⟩
  · exact ⟨fa77, by simp [faA], h77 h hL hC hN hQ hR⟩
  · exact ⟨fa78, by simp [faA], h78 h hL hC hN hQ hR⟩
  · exact ⟨fa79, by simp [faA], h79 h hL hC hN hQ hR⟩
  · exact ⟨fa80, by simp [faA], h80 h hL hC hN hQ hR⟩
  · exact ⟨fa81, by simp [faA], h81 h hL hC hN hQ hR⟩
  · exact ⟨fa82, by simp [faA], h82 h hL hC hN hQ hR⟩
  · exact ⟨fa83, by simp [faA], h83 h hL hC hN hQ hR⟩
  · exact ⟨fa84, by simp [faA], h84 h hL hC hN hQ hR⟩
  · exact ⟨fa85, by simp [faA], h85 h hL hC hN hQ hR⟩
  · exact ⟨fa86, by simp [faA], h86 h hL hC hN hQ hR⟩
  · exact ⟨fa87, by simp [faA], h87 h hL hC hN hQ hR⟩
  · exact ⟨fa88, by simp [faA], h88 h hL hC hN hQ hR⟩
  · exact ⟨fa89, by simp [faA], h89 h hL hC hN hQ hR⟩
  · exact ⟨fa90, by simp [faA], h90 h hL hC hN hQ hR⟩
  · exact ⟨fa91, by simp [faA], h91 h hL hC hN hQ hR⟩
  · exact ⟨fa92, by simp [faA], h92 h hL hC hN hQ hR⟩
  · exact ⟨fa93, by simp [faA], h93 h hL hC hN hQ hR⟩
  · exact ⟨fa94, by simp [faA], h94 h hL hC hN hQ hR⟩
  · exact ⟨fa95, by simp [faA], h95 h hL hC hN hQ hR⟩
  · exact ⟨fa96, by simp [faA], h96 h hL hC hN hQ hR⟩
  · exact ⟨fa97, by simp [faA], h97 h hL hC hN hQ hR⟩
  · exact ⟨fa98, by simp [faA], h98 h hL hC hN hQ hR⟩
  · exact ⟨fa99, by simp [faA], h99 h hL hC hN hQ hR⟩
  · exact ⟨fa100, by simp [faA], h100 h hL hC hN hQ hR⟩
  · exact ⟨fa101, by simp [faA], h101 h hL hC hN hQ hR⟩
  · exact ⟨fa102, by simp [faA], h102 h hL hC hN hQ hR⟩
  · exact ⟨fa103, by simp [faA], h103 h hL hC hN hQ hR⟩
  · exact ⟨fa104, by simp [faA], h104 h hL hC hN hQ hR⟩
  · exact ⟨fa105, by simp [faA], h105 h hL hC hN hQ hR⟩
  · exact ⟨fa106, by simp [faA], h106 h hL hC hN hQ hR⟩
  · exact ⟨fa107, by simp [faA], h107 h hL hC hN hQ hR⟩
  · exact ⟨fa108, by simp [faA], h108 h hL hC hN hQ hR⟩
  · exact ⟨fa109, by simp [faA], h109 h hL hC hN hQ hR⟩
  · exact ⟨fa110, by simp [faA], h110 h hL hC hN hQ hR⟩
  · exact ⟨fa111, by simp [faA], h111 h hL hC hN hQ hR⟩
  · exact ⟨fa112, by simp [faA], h112 h hL hC hN hQ hR⟩
  · exact ⟨fa113, by simp [faA], h113 h hL hC hN hQ hR⟩
  · exact ⟨fa114, by simp [faA], h114 h hL hC hN hQ hR⟩
  · exact ⟨fa115, by simp [faA], h115 h hL hC hN hQ hR⟩
  · exact ⟨fa116, by simp [faA], h116 h hL hC hN hQ hR⟩
  · exact ⟨fa117, by simp [faA], h117 h hL hC hN hQ hR⟩
  · exact ⟨fa118, by simp [faA], h118 h hL hC hN hQ hR⟩
  · exact ⟨fa119, by simp [faA], h119 h hL hC hN hQ hR⟩
  · exact ⟨fa120, by simp [faA], h120 h hL hC hN hQ hR⟩
  · exact ⟨fa121, by simp [faA], h121 h hL hC hN hQ hR⟩
  · exact ⟨fa122, by simp [faA], h122 h hL hC hN hQ hR⟩
  · exact ⟨fa123, by simp [faA], h123 h hL hC hN hQ hR⟩
  · exact ⟨fa124, by simp [faA], h124 h hL hC hN hQ hR⟩
  · exact ⟨fa125, by simp [faA], h125 h hL hC hN hQ hR⟩
  · exact ⟨fa126, by simp [faA], h126 h hL hC hN hQ hR⟩
  · exact ⟨fa127, by simp [faA], h127 h hL hC hN hQ hR⟩
  · exact ⟨fa128, by simp [faA], h128 h hL hC hN hQ hR⟩
  · exact ⟨fa129, by simp [faA], h129 h hL hC hN hQ hR⟩
  · exact ⟨fa130, by simp [faA], h130 h hL hC hN hQ hR⟩
  · exact ⟨fa131, by simp [faA], h131 h hL hC hN hQ hR⟩
  · exact ⟨fa132, by simp [faA], h132 h hL hC hN hQ hR⟩
  · exact ⟨fa133, by simp [faA], h133 h hL hC hN hQ hR⟩
  · exact ⟨fa134, by simp [faA], h134 h hL hC hN hQ hR⟩
  · exact ⟨fa135, by simp [faA], h135 h hL hC hN hQ hR⟩
  · exact ⟨fa136, by simp [faA], h136 h hL hC hN hQ hR⟩
  · exact ⟨fa137, by simp [faA], h137 h hL hC hN hQ hR⟩
  · exact ⟨fa138, by simp [faA], h138 h hL hC hN hQ hR⟩
  · exact ⟨fa139, by simp [faA], h139 h hL hC hN hQ hR⟩
  · exact ⟨fa140, by simp [faA], h140 h hL hC hN hQ hR⟩
  · exact ⟨fa141, by simp [faA], h141 h hL hC hN hQ hR⟩
  · exact ⟨fa142, by simp [faA], h142 h hL hC hN hQ hR⟩
  · exact ⟨fa143, by simp [faA], h143 h hL hC hN hQ hR⟩
end Go.Ev.X
end
