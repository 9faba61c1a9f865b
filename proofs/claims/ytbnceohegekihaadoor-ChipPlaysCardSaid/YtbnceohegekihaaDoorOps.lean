/-
  The law's scripts ([]Op), opened to cells. No condition.
-/
import Derived.Test.YtbnceohegekihaaDoorOpen
import Derived.Test.YtbnceohegekihaaDoorChipDoes
import Derived.ProofKit
import Derived.OpenShut
set_option linter.unusedSimpArgs false
set_option linter.unusedVariables false
namespace Go.Proofs.YtbnceohegekihaaDoor
open Go.RowKit Go.ChangeShapes Go.WideShapes Go.ChangeAt Go.Deep

def OpsAt (w : World) (v : Value) (zs : List OpV) : Prop :=
  ∃ oa cap, v = .slice oa zs.length cap ∧ zs.length ≤ maxLen ∧ ∀ i (h : i < zs.length), ∃ b off, oa = some ⟨b, off, none⟩ ∧ b < w.heap.size ∧
    w.cell? ⟨b, off + i * 4, none⟩ = some (.int .i64 zs[i].what) ∧ w.cell? ⟨b, off + i * 4 + 1, none⟩ = some (.int .i64 zs[i].line) ∧
    w.cell? ⟨b, off + i * 4 + 2, none⟩ = some (.bool zs[i].on) ∧ w.cell? ⟨b, off + i * 4 + 3, none⟩ = some (.int .u64 (zs[i].x.toNat : Int))

theorem cell_spot {w : World} {a : Addr} {v : Value} (h : w.cell? a = some v) : a.spot = none ∧ a.block < w.heap.size := by
  unfold World.cell? at h
  split at h
  · rename_i hb
    split at h
    · cases h
    · rename_i hs
      exact ⟨by simpa using hs, size_of_at hb⟩
  · cases h

theorem add_none (b off k : Nat) : (⟨b, off, none⟩ : Addr).add k = ⟨b, off + k, none⟩ := by
  unfold Addr.add
  split
  · rename_i h; subst h; rfl
  · rfl
theorem opCellsOf : Tryd.prog.cellsOf 39 = 4 := by kernel_rfl
theorem open_ops {H : Type} {enc : TypeId × Value → H} {W : World} {r : Reach} {b0 : Nat} {v : Value} {d : DataW H} {p : List MemPlace}
    (hval : Value.okWide Tryd.prog W r b0 36 v) (h : DataW.Trod enc Tryd.prog W 0 (fun _ => true) true 36 v d p) : ∃ zs, OpsAt W v zs := by
  obtain ⟨oa, len, cap, rfl⟩ := okWide_slice Tryd.underlying36 hval
  obtain ⟨fuel, hf⟩ := h
  rcases open_slice_fields Tryd.underlying36 Tryd.underlying39 (by kernel_rfl) (by kernel_rfl) hf with ⟨hcs, hx⟩ | ⟨a, len', cap', m, D, Pl, hcs, _, hl, hm, hmm, hx, hi⟩
  · simp [Value.cells] at hcs
    obtain ⟨rfl, rfl, rfl⟩ := hcs
    exact ⟨[], none, 0, rfl, by simp, fun i hi => absurd hi (by simp)⟩
  · simp [Value.cells] at hcs
    obtain ⟨rfl, rfl, rfl⟩ := hcs
    have key : ∀ i, i < len → ∃ z : OpV, ∃ b off, some a = some (⟨b, off, none⟩ : Addr) ∧ b < W.heap.size ∧
        W.cell? ⟨b, off + i * 4, none⟩ = some (.int .i64 z.what) ∧ W.cell? ⟨b, off + i * 4 + 1, none⟩ = some (.int .i64 z.line) ∧
        W.cell? ⟨b, off + i * 4 + 2, none⟩ = some (.bool z.on) ∧ W.cell? ⟨b, off + i * 4 + 3, none⟩ = some (.int .u64 (z.x.toNat : Int)) := by
      intro i hil
      obtain ⟨ys, n, _, _, _, hfld⟩ := hi i (by simp at hmm; omega)
      obtain ⟨v0, y0, c0, _, t0⟩ := hfld 0 _ rfl
      obtain ⟨v1, y1, c1, _, t1⟩ := hfld 1 _ rfl
      obtain ⟨v2, y2, c2, _, t2⟩ := hfld 2 _ rfl
      obtain ⟨v3, y3, c3, _, t3⟩ := hfld 3 _ rfl
      obtain ⟨n0, e0, _, _⟩ := DataW.trod_int Tryd.underlying3 t0
      obtain ⟨n1, e1, _, _⟩ := DataW.trod_int Tryd.underlying3 t1
      obtain ⟨n2, e2, _⟩ := DataW.trod_bool Tryd.underlying4 t2
      obtain ⟨n3, e3, _, w3⟩ := DataW.trod_int Tryd.underlying22 t3
      simp at e0 e1 e2 e3
      subst e0 e1 e2 e3
      obtain ⟨ys', _, _, _, _, hfld'⟩ := hi 0 (by simp at hmm; omega)
      obtain ⟨_, _, c0', _, _⟩ := hfld' 0 _ rfl
      obtain ⟨hs, hb⟩ := cell_spot c0'
      obtain ⟨b, off, sp⟩ := a
      simp [Addr.add] at hs hb
      subst hs
      simp only [add_none] at c0 c1 c2 c3
      simp at c0 c1 c2 c3
      have hbd : 0 ≤ n3 ∧ n3 ≤ 18446744073709551615 := by simp [Lit.wf, IntKind.min, IntKind.max, IntKind.signed, IntKind.bits] at w3; omega
      have hx3 : ((BitVec.ofInt 64 n3).toNat : Int) = n3 := by rw [BitVec.toNat_ofInt]; omega
      refine ⟨⟨n0, n1, n2, BitVec.ofInt 64 n3⟩, b, off, rfl, hb, ?_, ?_, ?_, ?_⟩
      · exact c0
      · simpa [Nat.add_assoc] using c1
      · simpa [Nat.add_assoc] using c2
      · rw [hx3]; simpa [Nat.add_assoc] using c3
    obtain ⟨zs, hzl, hz⟩ := list_of len _ key
    subst hzl
    exact ⟨zs, some a, cap, rfl, by omega, fun i hi => hz i hi⟩
theorem old_cell {w w' : World} (hk : Kept [] w w') {a : Addr} {v : Value} (h : w.cell? a = some v) : w'.cell? a = some v := by
  rw [← h]; exact World.cell?_of_block (w := w) (hk.block _ (cell_spot h).2 (by simp))
def OpsN (w : World) (oa : Option Addr) (n : Nat) : Prop :=
  ∀ i, i < n → ∃ (z : OpV) (b off : Nat), oa = some ⟨b, off, none⟩ ∧ b < w.heap.size ∧
    w.cell? ⟨b, off + i * 4, none⟩ = some (.int .i64 z.what) ∧ w.cell? ⟨b, off + i * 4 + 1, none⟩ = some (.int .i64 z.line) ∧
    w.cell? ⟨b, off + i * 4 + 2, none⟩ = some (.bool z.on) ∧ w.cell? ⟨b, off + i * 4 + 3, none⟩ = some (.int .u64 (z.x.toNat : Int))
theorem OpsAt.form {w : World} {v : Value} {zs : List OpV} (h : OpsAt w v zs) : ∃ oa n cap, v = .slice oa n cap ∧ n ≤ maxLen ∧ OpsN w oa n := by
  obtain ⟨oa, cap, rfl, hl, hi⟩ := h
  exact ⟨oa, _, cap, rfl, hl, fun i h => ⟨zs[i], hi i h⟩⟩
theorem OpsN.kept {S : List Nat} {w w' : World} {oa : Option Addr} {n : Nat} (h : OpsN w oa n) (hk : Kept S w w') (hs : ∀ x, x ∈ S → w.heap.size ≤ x) : OpsN w' oa n := by
  intro i hi
  obtain ⟨z, b, off, e, hb, c0, c1, c2, c3⟩ := h i hi
  have hc : ∀ o, w'.cell? ⟨b, o, none⟩ = w.cell? ⟨b, o, none⟩ := fun o => World.cell?_of_block (w := w) (hk.block b hb (fun hx => by have := hs b hx; omega))
  refine ⟨z, b, off, e, Nat.lt_of_lt_of_le hb hk.size, ?_, ?_, ?_, ?_⟩ <;> rw [hc] <;> assumption
end Go.Proofs.YtbnceohegekihaaDoor
