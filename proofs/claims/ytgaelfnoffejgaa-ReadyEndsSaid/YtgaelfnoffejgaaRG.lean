/-
 What the laws of the queues have in common.
-/
import Derived.Test.YtgaelfnoffejgaaRP
import Derived.Test.YtgaelfnoffejgaaRA
import Derived.Test.YtgaelfnoffejgaaMFz
set_option linter.unusedSimpArgs false
set_option linter.unusedVariables false
set_option maxRecDepth 100000
noncomputable section
namespace Go.Ev.X
open Go Go.Ev Go.Proofs
variable {E : Env} {f f' : Nat → Int} {Q : Nat → List Nat} {t : Nat}
theorem sgL_cut {l : List (Nat × SE)} {i : Nat} (h : ∀ p ∈ l, i ≠ p.1) : sgL l i = none := by
 induction l with
 | nil => rfl
 | cons p r ih =>
  obtain ⟨a, s⟩ := p
  have e : Nat.beq i a = false := by
   rw [Bool.eq_false_iff]; simpa using h (a, s) (by simp)
  show bc (Nat.beq i a) (some s) (sgL r i) = none
  rw [e]
  exact ih fun p hp => h p (by simp [hp])
theorem fs_app {l m : List (SB × Bool)} (h1 : FsOk E l) (h2 : FsOk E m) : FsOk E (l ++ m) := by
 induction l with
 | nil => exact h2
 | cons p r ih =>
  obtain ⟨c, b⟩ := p
  exact ⟨h1.1, ih h1.2⟩
theorem fs_map {s : Nat → SB × Bool} : ∀ (m i : Nat), (∀ k, i ≤ k → k < i + m → (s k).1.den E = (s k).2) → FsOk E ((rngF i m).map s)
 | 0, i, h => trivial
 | m + 1, i, h => ⟨h i (by omega) (by omega), fs_map m (i + 1) fun k h1 h2 => h k (by omega) (by omega)⟩
theorem tA_ok {ρ : Rho} {b : Nat} {x0 x1 x2 x3 x4 x5 x6 x7 x8 x9 x10 x11 x12 x13 : V} {v : TV} {r : Nat → Int} (h0 : x0.γ E ρ = .int .i64 v.st) (h1 : x1.γ E ρ = .int .i64 v.pr) (h2 : x2.γ E ρ = .int .i64 v.sl) (h3 : x3.γ E ρ = .bool v.q) (h4 : x4.γ E ρ = .int .i64 v.pv) (h5 : x5.γ E ρ = .int .i64 v.nx) (h6 : x6.γ E ρ = .int .i64 v.bl) (h7 : x7.γ E ρ = .int .i64 v.bd) (h8 : x8.γ E ρ = .bool v.g) (h9 : x9.γ E ρ = .bool v.c) (h10 : x10.γ E ρ = .int .i64 v.bo) (h11 : x11.γ E ρ = .int .i64 v.ha) (h12 : x12.γ E ρ = .int .i64 v.fk) (h13 : x13.γ E ρ = .int .i64 v.fa)
  (hr : ∀ j, j < 30 → E.i (b + j) = fldT v r j) : (tA b x0 x1 x2 x3 x4 x5 x6 x7 x8 x9 x10 x11 x12 x13).γ E ρ = thV v r :=
 thG h0 h1 h2 h3 h4 h5 h6 h7 h8 h9 h10 h11 h12 h13 (vsi (hr 14 (by omega))) (vsi (hr 15 (by omega))) (vsi (hr 16 (by omega))) (vsi (hr 17 (by omega))) (vsi (hr 18 (by omega))) (vsi (hr 19 (by omega))) (vsi (hr 20 (by omega))) (vsi (hr 21 (by omega))) (vsi (hr 22 (by omega))) (vsi (hr 23 (by omega))) (vsi (hr 24 (by omega))) (vsi (hr 25 (by omega))) (vsi (hr 26 (by omega))) (vsi (hr 27 (by omega))) (vsi (hr 28 (by omega))) (vsi (hr 29 (by omega)))
theorem len_le : ∀ {S L : List Nat}, L.Nodup → (∀ x ∈ L, x ∈ S) → L.length ≤ S.length
 | [], L, hn, h => by
  cases L with
  | nil => simp
  | cons a r => exact absurd (h a (by simp)) (by simp)
 | s :: S, L, hn, h => by
  by_cases hs : s ∈ L
  ·obtain ⟨a, b, rfl⟩ := List.append_of_mem hs
   obtain ⟨na, nb, nab⟩ := List.nodup_append.1 hn
   have nb' := List.nodup_cons.1 nb
   have hab : (a ++ b).Nodup := List.nodup_append.2 ⟨na, nb'.2, fun x hx y hy => nab x hx y (by simp [hy])⟩
   have := len_le (S := S) hab fun x hx => by
    have hx' : x ∈ a ++ s :: b := by
     rcases List.mem_append.1 hx with h1 | h1
     ·simp [h1]
     ·simp [h1]
    rcases List.mem_cons.1 (h x hx') with rfl | h2
    ·rcases List.mem_append.1 hx with h1 | h1
     ·exact absurd rfl (nab x h1 x (by simp))
     ·exact absurd h1 nb'.1
    ·exact h2
   simp at this ⊢; omega
  ·have := len_le (S := S) hn fun x hx => by
    rcases List.mem_cons.1 (h x hx) with rfl | h2
    ·exact absurd hx hs
    ·exact h2
   simp; omega
theorem nxA_s (σ : Sg) (E : Env) (x : Int) (vs : Nat → Int) (rows : Nat → Row) (q : Nat) : (nxA σ E x vs rows).s q = nxS σ E x rows q := rfl
def v0 (b : Bool) (r : Row) : Value := bif b then .slice none 0 0 else .slice (some ⟨r.b, r.off, none⟩) r.len r.cap
end Go.Ev.X
end
