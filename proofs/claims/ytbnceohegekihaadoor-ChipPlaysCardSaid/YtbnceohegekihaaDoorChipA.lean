/-
  Contracts of package chip: New, Word, Restore, Tick, Now, Pending, Masked, Next. No condition beyond the block's cells.
-/
import Derived.Test.YtbnceohegekihaaDoorRows
import Derived.Test.YtbnceohegekihaaDoorBase
import Derived.Test.YtbnceohegekihaaDoorWords
import Derived.Deep.QuietTactic
import Derived.BigQuiet
import Derived.Lib.Hide
set_option linter.unusedSimpArgs false
set_option linter.unusedVariables false
namespace Go.Proofs.YtbnceohegekihaaDoor
open Go.RowKit

/-- the three cells of a chip's block -/
abbrev chipObj (p m : BitVec 16) (n : BitVec 32) : Obj := .cells #[.int .u16 (p.toNat : Int), .int .u16 (m.toNat : Int), .int .u32 (n.toNat : Int)] 49
def ChipAt (w : World) (b : Nat) (p m : BitVec 16) (n : BitVec 32) : Prop := w.heap[b]? = some (chipObj p m n)
theorem ChipAt.cells {w : World} {b : Nat} {p m : BitVec 16} {n : BitVec 32} (h : ChipAt w b p m n) :
    w.cell? ⟨b, 0, none⟩ = some (.int .u16 (p.toNat : Int)) ∧ w.cell? ⟨b, 1, none⟩ = some (.int .u16 (m.toNat : Int)) ∧ w.cell? ⟨b, 2, none⟩ = some (.int .u32 (n.toNat : Int)) ∧
      w.frozen? ⟨b, 0, none⟩ = false ∧ w.frozen? ⟨b, 1, none⟩ = false ∧ w.frozen? ⟨b, 2, none⟩ = false := by
  unfold ChipAt chipObj at h
  refine ⟨?_, ?_, ?_, ?_, ?_, ?_⟩
  · rw [cell_of_at h]; rfl
  · rw [cell_of_at h]; rfl
  · rw [cell_of_at h]; rfl
  · exact free_of_at h 0
  · exact free_of_at h 1
  · exact free_of_at h 2

def word (p m : BitVec 16) (n : BitVec 32) : BitVec 64 := n.setWidth 64 <<< 32 ||| m.setWidth 64 <<< 16 ||| p.setWidth 64

/-- a chip's state is v -/
def Ret (v : Value) (S : List Nat) (w : World) (b : Nat) (p m : BitVec 16) (n : BitVec 32) (e : Ending) (w' : World) : Prop :=
  e = .returned v ∧ ChipAt w' b p m n ∧ Kept S w w'

set_option maxHeartbeats 400000 in
theorem new_any (w : World) :
    Calls Tryd.prog 8 #[] w fun e w' => e = .returned (.pointer (some ⟨w.heap.size, 0, none⟩)) ∧ w' = w.alloc (chipObj 0 65535#16 0) := by
  go_enter Tryd.func8, Tryd.ntmps8
  go_wp2
  go_ret
  exact ⟨rfl, rfl⟩

theorem new_c (w : World) :
    Calls Tryd.prog 8 #[] w (Ret (.pointer (some ⟨w.heap.size, 0, none⟩)) [] w w.heap.size 0 65535#16 0) :=
  (new_any w).mono fun e w' ⟨he, hw⟩ => by subst hw; exact ⟨he, at_alloc_new _ _, (Kept.refl _ _).alloc _⟩

theorem ret_u64 {a b : Int} (h : a = b) : Ending.returned (.int .u64 a) = .returned (.int .u64 b) := by rw [h]
set_option maxHeartbeats 400000 in
theorem word_any (b : Nat) (p m : BitVec 16) (n : BitVec 32) (w : World) (h : ChipAt w b p m n) :
    Calls Tryd.prog 11 #[.pointer (some ⟨b, 0, none⟩)] w fun e w' => e = .returned (.int .u64 ((word p m n).toNat : Int)) ∧ ∃ k, w' = w.drewN k := by
  obtain ⟨h0, h1, h2, _, _, _⟩ := h.cells
  clear h
  have e : bits BinOp.or IntKind.u64 (bits BinOp.or IntKind.u64 ((n.toNat : Int) * 4294967296) ((m.toNat : Int) * 65536)) (p.toNat : Int) = ((word p m n).toNat : Int) := by
    have en : (n.toNat : Int) * 4294967296 = IntKind.u64.wrap (((n.setWidth 64).toNat : Int) * 4294967296) := by rw [← to64_32 n, IntKind.wrap_u64]; have := n.isLt; omega
    have em : (m.toNat : Int) * 65536 = IntKind.u64.wrap (((m.setWidth 64).toNat : Int) * 65536) := by rw [← to64_16 m, IntKind.wrap_u64]; have := m.isLt; omega
    rw [en, em, to64_16 p, shl64_32, shl64_16, or64, or64, word]
  have E := Lib.hid e
  clear e
  go_enter Tryd.func11, Tryd.ntmps11
  go_wp2
  go_quiet (fail)
  go_wp2
  go_ret
  exact ⟨ret_u64 E.out, _, rfl⟩

theorem word_c (b : Nat) (p m : BitVec 16) (n : BitVec 32) (w : World) (h : ChipAt w b p m n) :
    Calls Tryd.prog 11 #[.pointer (some ⟨b, 0, none⟩)] w (Ret (.int .u64 ((word p m n).toNat : Int)) [] w b p m n) :=
  (word_any b p m n w h).mono fun e w' ⟨he, k, hw⟩ => by subst hw; exact ⟨he, h, (Kept.refl _ _).drewN _⟩

set_option maxHeartbeats 400000 in
theorem now_c (b : Nat) (p m : BitVec 16) (n : BitVec 32) (w : World) (h : ChipAt w b p m n) :
    Calls Tryd.prog 28 #[.pointer (some ⟨b, 0, none⟩)] w (Ret (.int .i64 (n.toNat : Int)) [] w b p m n) := by
  obtain ⟨h0, h1, h2, _, _, _⟩ := h.cells
  have H := Lib.hid h
  clear h
  have hn := n.isLt
  go_enter Tryd.func28, Tryd.ntmps28
  go_wp2
  go_ret
  exact ⟨rfl, H.out, Kept.refl _ _⟩

set_option maxHeartbeats 400000 in
theorem tick_c (b : Nat) (p m : BitVec 16) (n : BitVec 32) (w : World) (h : ChipAt w b p m n) :
    Calls Tryd.prog 19 #[.pointer (some ⟨b, 0, none⟩)] w (Ret (.tuple #[]) [b] w b p m (n + 1)) := by
  obtain ⟨h0, h1, h2, f0, f1, f2⟩ := h.cells
  have H := Lib.hid h
  clear h
  go_enter Tryd.func19, Tryd.ntmps19
  go_wp2
  go_end0
  refine ⟨rfl, ?_, (Kept.refl _ _).setCell (.inl (by simp)) _⟩
  have := at_setCell (off := 2) H.out (.int .u32 (IntKind.u32.wrap (↑n.toNat + 1)))
  unfold ChipAt
  refine this.trans ?_
  have e : IntKind.u32.wrap (↑n.toNat + 1) = ((n + 1).toNat : Int) := by
    rw [BitVec.toNat_add, IntKind.wrap_u32']; simp
  rw [e]; rfl

set_option maxHeartbeats 1000000 in
theorem restore_c (b : Nat) (p m : BitVec 16) (n : BitVec 32) (x : BitVec 64) (w : World) (h : ChipAt w b p m n) :
    Calls Tryd.prog 9 #[.pointer (some ⟨b, 0, none⟩), .int .u64 (x.toNat : Int)] w (Ret (.tuple #[]) [b] w b (x.setWidth 16) ((x >>> 16).setWidth 16) ((x >>> 32).setWidth 32)) := by
  obtain ⟨h0, h1, h2, f0, f1, f2⟩ := h.cells
  have H := Lib.hid h
  clear h
  go_enter Tryd.func9, Tryd.ntmps9
  go_wp2
  go_end0
  refine ⟨rfl, ?_, (((Kept.refl _ _).setCell (.inl (by simp)) _).setCell (.inl (by simp)) _).setCell (.inl (by simp)) _⟩
  have := at_setCell (off := 0) (at_setCell (off := 1) (at_setCell (off := 2) H.out (.int .u32 (((x >>> 32).setWidth 32).toNat : Int))) (.int .u16 (((x >>> 16).setWidth 16).toNat : Int))) (.int .u16 ((x.setWidth 16).toNat : Int))
  unfold ChipAt
  have e2 : (((x >>> 32).setWidth 32).toNat : Int) = (x.toNat : Int) / 4294967296 := by
    rw [BitVec.toNat_setWidth, BitVec.toNat_ushiftRight, Nat.shiftRight_eq_div_pow]; have := x.isLt; omega
  have e1 : (((x >>> 16).setWidth 16).toNat : Int) = IntKind.u16.wrap ((x.toNat : Int) / 65536) := by
    rw [BitVec.toNat_setWidth, BitVec.toNat_ushiftRight, Nat.shiftRight_eq_div_pow, IntKind.wrap_u16]; omega
  have e0 : ((x.setWidth 16).toNat : Int) = IntKind.u16.wrap (x.toNat : Int) := by
    rw [BitVec.toNat_setWidth, IntKind.wrap_u16]; omega
  rw [chipObj, e2, e1, e0]
  rw [e2, e1, e0] at this
  exact this

end Go.Proofs.YtbnceohegekihaaDoor
