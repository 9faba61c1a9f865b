/-
  The relation Kept between two worlds: which old blocks may have changed. No condition.
-/
import Derived.WalkKit
import Derived.WalkSpells
import Derived.WalkLawsBesides
set_option linter.unusedSimpArgs false
set_option linter.unusedVariables false
namespace Go.Proofs.YtligpkenodgfoaaGreatDoor
open Go.RowKit

/-- Of the blocks that were there all are as they were, but those of S; streams and tape are as they were. -/
structure Kept (S : List Nat) (w w' : World) : Prop where
  os : w'.os = w.os
  tape : w'.tape = w.tape
  output : w'.output = w.output
  size : w.heap.size ≤ w'.heap.size
  block : ∀ k, k < w.heap.size → k ∉ S → w'.heap[k]? = w.heap[k]?

theorem Kept.refl (S : List Nat) (w : World) : Kept S w w := ⟨rfl, rfl, rfl, Nat.le_refl _, fun _ _ _ => rfl⟩
theorem Kept.trans {S : List Nat} {a b c : World} (h : Kept S a b) (k : Kept S b c) : Kept S a c :=
  ⟨k.os.trans h.os, k.tape.trans h.tape, k.output.trans h.output, Nat.le_trans h.size k.size,
    fun i hi hs => (k.block i (Nat.lt_of_lt_of_le hi h.size) hs).trans (h.block i hi hs)⟩
theorem Kept.mono {S T : List Nat} {w w' : World} (h : Kept S w w') (hs : ∀ x, x ∈ S → x ∈ T) : Kept T w w' :=
  ⟨h.os, h.tape, h.output, h.size, fun k hk ht => h.block k hk (fun hx => ht (hs k hx))⟩
theorem Kept.nil {T : List Nat} {w w' : World} (h : Kept [] w w') : Kept T w w' := h.mono (by simp)
/-- what is changed in new blocks alone is not told -/
theorem Kept.drop {S T : List Nat} {w w' : World} (h : Kept S w w') (hs : ∀ x, x ∈ S → x ∈ T ∨ w.heap.size ≤ x) : Kept T w w' :=
  ⟨h.os, h.tape, h.output, h.size, fun k hk ht => h.block k hk (fun hx => by rcases hs k hx with h1 | h1; exact ht h1; omega)⟩
/-- two steps, the second one's changes in T or in what is new since the first world -/
theorem Kept.step {S T : List Nat} {a b c : World} (h : Kept T a b) (k : Kept S b c) (hs : ∀ x, x ∈ S → x ∈ T ∨ a.heap.size ≤ x) : Kept T a c :=
  ⟨k.os.trans h.os, k.tape.trans h.tape, k.output.trans h.output, Nat.le_trans h.size k.size,
    fun i hi ht => (k.block i (Nat.lt_of_lt_of_le hi h.size) (fun hx => by rcases hs i hx with h1 | h1; exact ht h1; omega)).trans (h.block i hi ht)⟩
theorem Kept.drew {S : List Nat} {a w : World} (h : Kept S a w) : Kept S a w.drew := ⟨h.os, h.tape, h.output, h.size, h.block⟩
theorem Kept.drewN {S : List Nat} {a w : World} (h : Kept S a w) (n : Nat) : Kept S a (w.drewN n) := ⟨h.os, h.tape, h.output, h.size, h.block⟩
theorem Kept.alloc {S : List Nat} {a w : World} (h : Kept S a w) (o : Obj) : Kept S a (w.alloc o) :=
  h.trans ⟨rfl, rfl, rfl, by simp, fun k hk _ => Below.heap_alloc _ _ _ hk⟩
theorem Kept.setCell {S : List Nat} {a w : World} (h : Kept S a w) {p : Addr} (hp : p.block ∈ S ∨ a.heap.size ≤ p.block) (u : Value) : Kept S a (w.setCell p u) := by
  refine h.step (S := [p.block]) ⟨rfl, rfl, rfl, by simp [World.setCell], fun k hk hs => Below.heap_setCell _ _ _ _ (by simpa using hs)⟩ ?_
  intro x hx
  obtain rfl : x = p.block := by simpa using hx
  exact hp
theorem Kept.setRow {S : List Nat} {a w : World} (h : Kept S a w) {g : Nat} (hp : g ∈ S ∨ a.heap.size ≤ g) (cs : Array Value) : Kept S a (w.setRow g cs) := by
  refine h.step (S := [g]) ⟨rfl, rfl, rfl, by simp [World.setRow], fun k hk hs => ?_⟩ ?_
  · have hne : ¬ g = k := fun e => hs (by simp [e])
    simp [World.setRow, Array.getElem?_modify, hne]
  · intro x hx
    have e : x = g := by simpa using hx
    rw [e]; exact hp
theorem Kept.below {S : List Nat} {w w' : World} (h : Kept S w w') (B : Nat) (hB : B ≤ w.heap.size) (hs : ∀ x, x ∈ S → B ≤ x) : Below B w w' :=
  ⟨h.os, h.tape, h.output, h.size, fun k hk => h.block k (by omega) (fun hx => by have := hs k hx; omega)⟩
theorem Kept.of_below {w w' : World} (h : Below w.heap.size w w') : Kept [] w w' :=
  ⟨h.os, h.tape, h.output, h.size, fun k hk _ => h.block k hk⟩
theorem Kept.grown {S : List Nat} {a w w' : World} {row : Option Nat} (h : Kept S a w) (hg : w.grownBy w' row) (hr : ∀ k, row = some k → k ∈ S ∨ a.heap.size ≤ k) : Kept S a w' :=
  ⟨hg.os.trans h.os, hg.tape.trans h.tape, hg.output.trans h.output, Nat.le_trans h.size hg.size,
    fun k hk hs => (hg.block k (Nat.lt_of_lt_of_le hk h.size) (fun e => by rcases hr k e.symm with h1 | h1; exact hs h1; omega)).trans (h.block k hk hs)⟩
theorem Kept.at {S : List Nat} {w w' : World} (h : Kept S w w') {b : Nat} {o : Obj} (hb : w.heap[b]? = some o) (hs : b ∉ S) : w'.heap[b]? = some o := by
  have hl : b < w.heap.size := by
    rcases Nat.lt_or_ge b w.heap.size with h1 | h1
    · exact h1
    · simp [Array.getElem?_eq_none h1] at hb
  rw [h.block b hl hs]; exact hb

theorem size_of_at {w : World} {b : Nat} {o : Obj} (hb : w.heap[b]? = some o) : b < w.heap.size := by
  rcases Nat.lt_or_ge b w.heap.size with h1 | h1
  · exact h1
  · simp [Array.getElem?_eq_none h1] at hb
theorem at_alloc_old {w : World} {b : Nat} {o x : Obj} (hb : w.heap[b]? = some o) : (w.alloc x).heap[b]? = some o := by
  rw [Below.heap_alloc _ _ _ (size_of_at hb)]; exact hb
theorem at_alloc_new (w : World) (x : Obj) : (w.alloc x).heap[w.heap.size]? = some x := (MapKept.heap_alloc w x).1
theorem at_setCell_other {w : World} {b : Nat} {o : Obj} (hb : w.heap[b]? = some o) {p : Addr} (hp : b ≠ p.block) (u : Value) : (w.setCell p u).heap[b]? = some o := by
  rw [Below.heap_setCell _ _ _ _ hp]; exact hb
theorem at_setCell {w : World} {b off : Nat} {c : Array Value} {t : TypeId} {f : Nat × Nat} (hb : w.heap[b]? = some (.cells c t f)) (u : Value) :
    (w.setCell ⟨b, off, none⟩ u).heap[b]? = some (.cells (c.setIfInBounds off u) t f) := by
  simp [World.setCell, Array.getElem?_modify, hb]
theorem at_setRow {w : World} {g : Nat} {old cs : Array Value} {t : TypeId} {fr : Nat × Nat} (hg : w.heap[g]? = some (.cells old t fr)) : (w.setRow g cs).heap[g]? = some (.cells cs t fr) := setRow_heap _ _ _ _ _ _ hg
theorem at_setRow_other {w : World} {b g : Nat} {o : Obj} (hb : w.heap[b]? = some o) (hne : b ≠ g) (cs : Array Value) : (w.setRow g cs).heap[b]? = some o := by
  have hn : ¬ g = b := fun e => hne e.symm
  simp [World.setRow, Array.getElem?_modify, hn, hb]
theorem cell_of_at {w : World} {b : Nat} {c : Array Value} {t : TypeId} {f : Nat × Nat} (hb : w.heap[b]? = some (.cells c t f)) (off : Nat) : w.cell? ⟨b, off, none⟩ = c[off]? := by
  simp [World.cell?, hb]
theorem free_of_at {w : World} {b : Nat} {c : Array Value} {t : TypeId} (hb : w.heap[b]? = some (.cells c t (0, 0))) (off : Nat) : w.frozen? ⟨b, off, none⟩ = false := by
  simp [World.frozen?, hb]
end Go.Proofs.YtligpkenodgfoaaGreatDoor
