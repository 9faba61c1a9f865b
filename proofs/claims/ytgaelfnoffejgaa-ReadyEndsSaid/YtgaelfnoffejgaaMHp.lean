/-
 Contracts: which thread is the current one; the front of a queue; the highest one (the program's).
-/
import Derived.Test.YtgaelfnoffejgaaMPz
set_option linter.unusedSimpArgs false
set_option linter.unusedVariables false
set_option maxRecDepth 100000
noncomputable section
namespace Go.Ev.X
open Go Go.Ev Go.Proofs Go.RowKit
variable {E : Env} {f : Nat → Int} {Q : Nat → List Nat} {t : Nat}
def frE (F : Nat) : List Ent := [⟨F, [.si .i64 (.v 1)], 1, .tup [.si .i64 (.v 100), .si .i64 (.v 101)], .v 9000⟩]
theorem frontP_run : runX cx0 cP (frE 32) [] 15 [.si .i64 (.v 1)] ⟨[((.cmp .geq (.v 1) (.lit 0)), true), ((.cmp .lss (.v 1) (.lit 256)), true)], []⟩ (.si .i64 (.v 100)) 1 s1 = 0 := by decide +kernel
def frVs (f : Nat → Int) (p : Nat) (k : Nat) : Nat → Int := fun i => match i / 100 with
 | 0 => p
 | 1 => if i = 100 then headOf f p else tailOf f p
 | 90 => k
 | _ => 0
theorem fronts_p {p : Nat} (hp : p < 256) (hw : W64 (f (256 + p))) : MemB PP cP 1 15 [.int .i64 p] f (.int .i64 (headOf f p)) f := by
 obtain ⟨k, ⟨pk, uk⟩, ck⟩ := ends_p hp hw
 exact ⟨0 + k, ⟨by omega, by omega⟩, memC_x hC0 (by decide) frontP_run rfl (frVs f p k) (fun _ => f) fun st => ⟨stp_add (k := 0) (m := k) rfl rfl pk, fa_list ⟨f_ge (show (0 : Int) ≤ p by omega), f_lt (show (p : Int) < 256 by omega), trivial⟩ trivial,
  ⟨ent_y ck pk rfl (fun ρ => rfl) (fun ρ => rfl), trivial⟩, ps_list trivial, fun ρ => rfl, fun ρ => rfl⟩⟩
theorem pe_len {e : SE} {j : Nat} {x : Int} (he : e.den E = x) (hx : W64 x) (hv : E.i j = (Lib.bitLen x.toNat : Nat)) : PEntOk PP E ⟨62, [.si .u64 e], .si .i64 (.v j)⟩ :=
 ⟨trivial, Try.call62, fun ρ w => (Try.bits_Len64 (e.den E) w (by rw [he]; exact hx.1) (by rw [he]; have := hx.2; omega)).mono fun ex w' h => by
  obtain ⟨h1, h2⟩ := h
  subst h2
  refine ⟨?_, ⟨rfl, rfl, rfl, Nat.le_refl _, fun _ _ => rfl⟩⟩
  rw [h1, he]
  simp only [V.γ, SE.den, hv]⟩
def hiEs : List Ent := [⟨38, [.i .i64 4], 1, rdV 100, .v 9000⟩]
def hiPs : List PEnt := [⟨62, [.si .u64 (.op .and .u64 (.v 100) (.lit 15))], .si .i64 (.v 200)⟩]
theorem hi0_run : runX cx0 cP hiEs hiPs 14 [] ⟨[((.cmp .lss (.op .sub .i64 (.v 200) (.lit 1)) (.lit 0)), true)], []⟩ (.i .i64 0) 1 s1 = 0 := by decide +kernel
def hiEs2 : List Ent := [⟨38, [.i .i64 4], 1, rdV 100, .v 9000⟩, ⟨38, [.si .i64 (.op .add .i64 (.lit 8) (.op .sub .i64 (.v 200) (.lit 1)))], 2, rdV 300, .v 9002⟩,
 ⟨15, [.si .i64 (.op .add .i64 (.op .mul .i64 (.op .sub .i64 (.v 200) (.lit 1)) (.lit 64)) (.op .sub .i64 (.v 400) (.lit 1)))], 3, .si .i64 (.v 500), .v 9004⟩]
def hiPs2 : List PEnt := [⟨62, [.si .u64 (.op .and .u64 (.v 100) (.lit 15))], .si .i64 (.v 200)⟩, ⟨62, [.si .u64 (.v 300)], .si .i64 (.v 400)⟩]
def hiS : SE := .op .add .i64 (.op .add .i64 s1 (.v 9002)) (.v 9004)
theorem hi1_run : runX cx0 cP hiEs2 hiPs2 14 [] ⟨[((.cmp .lss (.op .sub .i64 (.v 200) (.lit 1)) (.lit 0)), false), ((.cmp .eql (.v 300) (.lit 0)), false)], []⟩ (.si .i64 (.v 500)) 3 hiS = 0 := by decide +kernel
def hiVs (s g w k h : Int) (n : Nat) : Nat → Int := fun i => match i / 100 with
 | 1 => s
 | 2 => g
 | 3 => w
 | 4 => k
 | 5 => h
 | 90 => if i = 9004 then n else 1
 | _ => 0
theorem den_subi {a b : SE} {x y : Int} (ha : a.den E = x) (hb : b.den E = y) (h0 : -9223372036854775808 ≤ x - y) (h1 : x - y ≤ 9223372036854775807) : SE.den E (.op .sub .i64 a b) = x - y := by
 show wrapF .i64 (a.den E - b.den E) = _
 rw [ha, hb, wrapF_eq, IntKind.wrap_i64]; omega
theorem den_addi {a b : SE} {x y : Int} (ha : a.den E = x) (hb : b.den E = y) (h0 : -9223372036854775808 ≤ x + y) (h1 : x + y ≤ 9223372036854775807) : SE.den E (.op .add .i64 a b) = x + y := by
 show wrapF .i64 (a.den E + b.den E) = _
 rw [ha, hb, wrapF_eq, IntKind.wrap_i64]; omega
theorem den_muli {a b : SE} {x y : Int} (ha : a.den E = x) (hb : b.den E = y) (h0 : -9223372036854775808 ≤ x * y) (h1 : x * y ≤ 9223372036854775807) : SE.den E (.op .mul .i64 a b) = x * y := by
 show wrapF .i64 (a.den E * b.den E) = _
 rw [ha, hb, wrapF_eq, IntKind.wrap_i64]; omega
end Go.Ev.X
end
