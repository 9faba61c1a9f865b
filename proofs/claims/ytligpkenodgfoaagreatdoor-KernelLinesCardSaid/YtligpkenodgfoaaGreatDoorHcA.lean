/-
  A chip: its three cells. No condition.
-/
import Derived.Test.YtligpkenodgfoaaGreatDoorRows
import Derived.Test.YtligpkenodgfoaaGreatDoorBase
import Derived.Test.YtligpkenodgfoaaGreatDoorWords
import Derived.Deep.QuietTactic
import Derived.BigQuiet
import Derived.Lib.Hide
set_option linter.unusedSimpArgs false
set_option linter.unusedVariables false
namespace Go.Proofs.YtligpkenodgfoaaGreatDoor
open Go.RowKit

/-- the three cells of a chip's block -/
abbrev chipObj (p m : BitVec 16) (n : BitVec 32) : Obj := .cells #[.int .u16 (p.toNat : Int), .int .u16 (m.toNat : Int), .int .u32 (n.toNat : Int)] 132
def ChipAt (w : World) (b : Nat) (p m : BitVec 16) (n : BitVec 32) : Prop := w.heap[b]? = some (chipObj p m n)
theorem ChipAt.cells {w : World} {b : Nat} {p m : BitVec 16} {n : BitVec 32} (h : ChipAt w b p m n) :
    w.cell? ⟨b, 0, none⟩ = some (.int .u16 (p.toNat : Int)) ∧ w.cell? ⟨b, 1, none⟩ = some (.int .u16 (m.toNat : Int)) ∧ w.cell? ⟨b, 2, none⟩ = some (.int .u32 (n.toNat : Int)) ∧
      w.frozen? ⟨b, 0, none⟩ = false ∧ w.frozen? ⟨b, 1, none⟩ = false ∧ w.frozen? ⟨b, 2, none⟩ = false := by
  unfold ChipAt chipObj at h
  refine ⟨?_, ?_, ?_, ?_, ?_, ?_⟩
  · rw [cell_of_at h]; rfl
  · rw [cell_of_at h]; rfl
  · rw [cell_of_at h]; rfl
  · exact free_of_at h 0
  · exact free_of_at h 1
  · exact free_of_at h 2

def word (p m : BitVec 16) (n : BitVec 32) : BitVec 64 := n.setWidth 64 <<< 32 ||| m.setWidth 64 <<< 16 ||| p.setWidth 64

/-- a chip's state is v -/
def Ret (v : Value) (S : List Nat) (w : World) (b : Nat) (p m : BitVec 16) (n : BitVec 32) (e : Ending) (w' : World) : Prop :=
  e = .returned v ∧ ChipAt w' b p m n ∧ Kept S w w'

end Go.Proofs.YtligpkenodgfoaaGreatDoor
