/-
 The base: the tables, the two memories.
-/
import Derived.Test.YtgaelfnoffejgaaSD
import Derived.Test.YtgaelfnoffejgaaE6
import Derived.Test.YtgaelfnoffejgaaLen
set_option linter.unusedSimpArgs false
set_option linter.unusedVariables false
set_option maxRecDepth 100000
noncomputable section
namespace Go.Ev.X
open Go Go.Ev Go.Proofs
abbrev PP : Program := Try.prog
theorem lenAll (E : Env) : LenA E := fun E' _ => len64_ok Try.call62 (fun x w h0 h1 => Try.bits_Len64 x w h0 h1)
theorem hC0 (E : Env) : CxOk E PP (tyOf PP) cx0 := cx0_ok (lenAll E).one
theorem hcl (E : Env) : CallOk E PP call0 := call0_ok (lenAll E).one
def cP : MC := ⟨98, 33, 2048⟩
def cR : MC := ⟨96, 33, 2048⟩
def MemB (P : Program) (c : MC) (b F : Nat) (args : List Value) (f : Nat → Int) (v : Value) (f' : Nat → Int) : Prop := ∃ k, (1 ≤ k ∧ k ≤ b) ∧ MemC P c F args f v f' k
theorem memb1 {P : Program} {c : MC} {F k : Nat} {args : List Value} {f f' : Nat → Int} {v : Value} (h : MemC P c F args f v f' (k + 1)) : MemB P c (k + 1) F args f v f' := ⟨k + 1, ⟨by omega, Nat.le_refl _⟩, h⟩
def smK (c : MC) (F : Nat) (s : Sm) : Bool := bc (s.wf c) (Nat.beq (s.run c F call0) 0) false
theorem smK_ok {c : MC} {F : Nat} {s : Sm} (h : smK c F s = true) : s.wf c = true ∧ s.run c F call0 = 0 := by
 have h : bc (s.wf c) (Nat.beq (s.run c F call0) 0) false = true := h
 cases h1 : s.wf c with
 | false => rw [h1] at h; cases h
 | true =>
  rw [h1] at h
  exact ⟨rfl, Nat.eq_of_beq_eq_true h⟩
def bools : List Bool := [true, false]
end Go.Ev.X
end
