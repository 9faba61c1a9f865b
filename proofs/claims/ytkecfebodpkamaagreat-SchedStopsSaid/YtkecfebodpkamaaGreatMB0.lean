/-
 The base: the tables, the two memories.
-/
import Derived.Test.YtkecfebodpkamaaGreatSD
import Derived.Test.YtkecfebodpkamaaGreatE6
import Derived.Test.YtkecfebodpkamaaGreatLen
set_option linter.unusedSimpArgs false
set_option linter.unusedVariables false
set_option maxRecDepth 100000
noncomputable section
namespace Go.Ev.X
open Go Go.Ev Go.Proofs
abbrev PP : Program := Tryz.prog
theorem lenAll (E : Env) : LenA E := fun E' _ => len64_ok Tryz.call82 (fun x w h0 h1 => Tryz.bits_Len64 x w h0 h1)
theorem hC0 (E : Env) : CxOk E PP (tyOf PP) cx0 := cx0_ok (lenAll E).one
theorem hcl (E : Env) : CallOk E PP call0 := call0_ok (lenAll E).one
def cP : MC := ⟨97, 37, 8192⟩
def cR : MC := ⟨61, 37, 8192⟩
def smK (c : MC) (F : Nat) (s : Sm) : Bool := bc (s.wf c) (Nat.beq (s.run c F call0) 0) false
theorem smK_ok {c : MC} {F : Nat} {s : Sm} (h : smK c F s = true) : s.wf c = true ∧ s.run c F call0 = 0 := by
 have h : bc (s.wf c) (Nat.beq (s.run c F call0) 0) false = true := h
 cases h1 : s.wf c with
 | false => rw [h1] at h; cases h
 | true =>
  rw [h1] at h
  exact ⟨rfl, Nat.eq_of_beq_eq_true h⟩
def thrL : List Nat := [1024, 1088, 1152, 1216]
def bools : List Bool := [true, false]
end Go.Ev.X
end
