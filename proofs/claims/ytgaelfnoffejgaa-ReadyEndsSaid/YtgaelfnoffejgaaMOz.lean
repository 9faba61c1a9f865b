/-
 What both memories are in the beginning: for each list of priorities.
-/
import Derived.Test.YtgaelfnoffejgaaMM
set_option linter.unusedSimpArgs false
set_option linter.unusedVariables false
set_option maxRecDepth 100000
noncomputable section
namespace Go.Ev.X
open Go Go.Ev Go.Proofs
variable {E : Env} {f : Nat → Int}
def I64 (x : Int) : Prop := -9223372036854775808 ≤ x ∧ x ≤ 9223372036854775807
structure RowI (r : Row) (D : Nat → Int) : Prop where
 esz : r.esz = 1
 c : ∀ i, i < r.len → r.cs[r.off + i]? = some (.int .i64 (D i)) ∧ I64 (D i)
def lowI (x : Int) : Int := x % 256
def thr0 (p : Int) : TV := ⟨1, p, 5, false, 0, 0, 0, 0, false, false, 0, 0, 0, 0⟩
def prD (n : Nat) (D : Nat → Int) (i : Nat) : Int := if i < n then lowI (D i) else 0
def madeF (pr : Nat → Int) : Nat → Nat → Int
 | 0 => fun _ => 0
 | i + 1 => setT (madeF pr i) (tcM i) (thr0 (pr i))
end Go.Ev.X
end
/-
 What both memories are in the beginning: the call.
-/
set_option linter.unusedSimpArgs false
set_option linter.unusedVariables false
set_option maxRecDepth 100000
noncomputable section
namespace Go.Ev.X
open Go Go.Ev Go.Proofs
variable {E E1 : Env} {f : Nat → Int}
def nP (b : Bool) (r : Row) : Nat := bif b then 0 else r.len
def madeW (b : Bool) (r : Row) (D : Nat → Int) (i : Nat) : Nat → Int := madeF (prD (nP b r) D) i
structure MadeE (b : Bool) (D : Nat → Int) (E : Env) : Prop where
 i5 : E.i 5 = 160
 i6 : E.i 6 = 160
 p : (E.s 100).cs = wordsA 2048 (madeW b (E.s 0) D 8)
 r : (E.s 200).cs = wordsA 2048 (madeW b (E.s 0) D 8)
 k1 : E.i 100100 = 100
 k2 : E.i 100200 = 200
 zp : (E.s 150).cs = wordsA 2048 (fun _ => 0)
 zr : (E.s 250).cs = wordsA 2048 (fun _ => 0)
 d : b = false → RowI (E.s 0) D
structure InvM (b : Bool) (D : Nat → Int) (E1 : Env) (m j : Nat) (E : Env) : Prop where
 le : j / 2 ≤ 8
 m : m + j / 2 = 8
 e : j / 2 = 8 → j = 16
 i1 : E.i 1 = E1.i 1
 i11 : E.i 11 = E1.i 11
 i20 : E.i 20 = E1.i 20
 eb : E.b = E1.b
 s : ∀ q, q < 50 → rowSame (E1.s q) (E.s q)
 i2 : E.i 2 = ((j / 2 : Nat) : Int)
 i5 : E.i 5 = ((20 * (j / 2) : Nat) : Int)
 i6 : E.i 6 = ((20 * (j / 2) : Nat) : Int)
 p : (E.s 100).cs = wordsA 2048 (madeW b (E1.s 0) D (j / 2))
 r : (E.s 200).cs = wordsA 2048 (madeW b (E1.s 0) D (j / 2))
 x0 : j / 2 < 8 → E.i 310 = 20
 x1 : j / 2 < 8 → E.i 311 = 20
 p1 : j / 2 < 8 → (E.s 101).cs = wordsA 2048 (madeW b (E1.s 0) D (j / 2 + 1))
 r1 : j / 2 < 8 → (E.s 201).cs = wordsA 2048 (madeW b (E1.s 0) D (j / 2 + 1))
 nb : j / 2 < 8 → b = true → hasM j = false
 go : j / 2 < 8 → EntsOk PP cP E 100 (esMp j) ∧ EntsOk PP cR E 200 (esMr j) ∧ PsOk PP E (psM j) ∧ FsOk E (fM b j)
end Go.Ev.X
end
