/-
 Contracts: which thread is the current one; the front of a queue; the highest one (the program's).
-/
import Derived.Test.YtgaelfnoffejgaaMDq
set_option linter.unusedSimpArgs false
set_option linter.unusedVariables false
set_option maxRecDepth 100000
noncomputable section
namespace Go.Ev.X
open Go Go.Ev Go.Proofs Go.RowKit
variable {E : Env} {f : Nat → Int} {Q : Nat → List Nat} {t : Nat}
def frE (F : Nat) : List Ent := [⟨F, [.si .i64 (.v 1)], 1, .tup [.si .i64 (.v 100), .si .i64 (.v 101)], .v 9000⟩]
theorem frontP_run : runX cx0 cP (frE 32) [] 15 [.si .i64 (.v 1)] ⟨[((.cmp .geq (.v 1) (.lit 0)), true), ((.cmp .lss (.v 1) (.lit 256)), true)], []⟩ (.si .i64 (.v 100)) 1 s1 = 0 := by decide +kernel
def frVs (f : Nat → Int) (p : Nat) (k : Nat) : Nat → Int := fun i => match i / 100 with
 | 0 => p
 | 1 => if i = 100 then headOf f p else tailOf f p
 | 90 => k
 | _ => 0
theorem fronts_p {p : Nat} (hp : p < 256) (hw : W64 (f (256 + p))) : MemB PP cP 1 15 [.int .i64 p] f (.int .i64 (headOf f p)) f := by
 obtain ⟨k, ⟨pk, uk⟩, ck⟩ := ends_p hp hw
 exact ⟨0 + k, ⟨by omega, by omega⟩, memC_x hC0 (by decide) frontP_run rfl (frVs f p k) (fun _ => f) fun st => ⟨stp_add (k := 0) (m := k) rfl rfl pk, fa_list ⟨f_ge (show (0 : Int) ≤ p by omega), f_lt (show (p : Int) < 256 by omega), trivial⟩ trivial,
  ⟨ent_y ck pk rfl (fun ρ => rfl) (fun ρ => rfl), trivial⟩, ps_list trivial, fun ρ => rfl, fun ρ => rfl⟩⟩
theorem pe_len {e : SE} {j : Nat} {x : Int} (he : e.den E = x) (hx : W64 x) (hv : E.i j = (Lib.bitLen x.toNat : Nat)) : PEntOk PP E ⟨62, [.si .u64 e], .si .i64 (.v j)⟩ :=
 ⟨trivial, Try.call62, fun ρ w => (Try.bits_Len64 (e.den E) w (by rw [he]; exact hx.1) (by rw [he]; have := hx.2; omega)).mono fun ex w' h => by
  obtain ⟨h1, h2⟩ := h
  subst h2
  refine ⟨?_, ⟨rfl, rfl, rfl, Nat.le_refl _, fun _ _ => rfl⟩⟩
  rw [h1, he]
  simp only [V.γ, SE.den, hv]⟩
def hiEs : List Ent := [⟨38, [.i .i64 4], 1, rdV 100, .v 9000⟩]
def hiPs : List PEnt := [⟨62, [.si .u64 (.op .and .u64 (.v 100) (.lit 15))], .si .i64 (.v 200)⟩]
theorem hi0_run : runX cx0 cP hiEs hiPs 14 [] ⟨[((.cmp .lss (.op .sub .i64 (.v 200) (.lit 1)) (.lit 0)), true)], []⟩ (.i .i64 0) 1 s1 = 0 := by decide +kernel
def hiEs2 : List Ent := [⟨38, [.i .i64 4], 1, rdV 100, .v 9000⟩, ⟨38, [.si .i64 (.op .add .i64 (.lit 8) (.op .sub .i64 (.v 200) (.lit 1)))], 2, rdV 300, .v 9002⟩,
 ⟨15, [.si .i64 (.op .add .i64 (.op .mul .i64 (.op .sub .i64 (.v 200) (.lit 1)) (.lit 64)) (.op .sub .i64 (.v 400) (.lit 1)))], 3, .si .i64 (.v 500), .v 9004⟩]
def hiPs2 : List PEnt := [⟨62, [.si .u64 (.op .and .u64 (.v 100) (.lit 15))], .si .i64 (.v 200)⟩, ⟨62, [.si .u64 (.v 300)], .si .i64 (.v 400)⟩]
def hiS : SE := .op .add .i64 (.op .add .i64 s1 (.v 9002)) (.v 9004)
theorem hi1_run : runX cx0 cP hiEs2 hiPs2 14 [] ⟨[((.cmp .lss (.op .sub .i64 (.v 200) (.lit 1)) (.lit 0)), false), ((.cmp .eql (.v 300) (.lit 0)), false)], []⟩ (.si .i64 (.v 500)) 3 hiS = 0 := by decide +kernel
def hiVs (s g w k h : Int) (n : Nat) : Nat → Int := fun i => match i / 100 with
 | 1 => s
 | 2 => g
 | 3 => w
 | 4 => k
 | 5 => h
 | 90 => if i = 9004 then n else 1
 | _ => 0
theorem den_subi {a b : SE} {x y : Int} (ha : a.den E = x) (hb : b.den E = y) (h0 : -9223372036854775808 ≤ x - y) (h1 : x - y ≤ 9223372036854775807) : SE.den E (.op .sub .i64 a b) = x - y := by
 show wrapF .i64 (a.den E - b.den E) = _
 rw [ha, hb, wrapF_eq, IntKind.wrap_i64]; omega
theorem den_addi {a b : SE} {x y : Int} (ha : a.den E = x) (hb : b.den E = y) (h0 : -9223372036854775808 ≤ x + y) (h1 : x + y ≤ 9223372036854775807) : SE.den E (.op .add .i64 a b) = x + y := by
 show wrapF .i64 (a.den E + b.den E) = _
 rw [ha, hb, wrapF_eq, IntKind.wrap_i64]; omega
theorem den_muli {a b : SE} {x y : Int} (ha : a.den E = x) (hb : b.den E = y) (h0 : -9223372036854775808 ≤ x * y) (h1 : x * y ≤ 9223372036854775807) : SE.den E (.op .mul .i64 a b) = x * y := by
 show wrapF .i64 (a.den E * b.den E) = _
 rw [ha, hb, wrapF_eq, IntKind.wrap_i64]; omega
def topH (Q : Nat → List Nat) : Option Nat → Int
 | none => 0
 | some p => (hdN (Q p) 0 : Nat)
theorem high_p (h : QInv TT f Q) : ∃ o, Top Q o ∧ MemB PP cP 3 14 [] f (.int .i64 (topH Q o)) f := by
 obtain ⟨s0, s15, _⟩ := h.sm
 have hand : ∀ st (vs : Nat → Int) (rows : Nat → Nat → Int), vs 100 = f 4 → SE.den (envX cP.N st vs rows) (.op .and .u64 (.v 100) (.lit 15)) = f 4 := fun st vs rows hv => by
  have hv : SE.den (envX cP.N st vs rows) (.v 100) = f 4 := hv
  have := den_low (m := 15) 4 rfl (by omega) hv s0 (by omega)
  rw [this]
  show f 4 % 16 = f 4
  omega
 by_cases h0 : f 4 = 0
 ·refine ⟨none, top_zero h h0, 0 + 1, ⟨by omega, by omega⟩, (memC_x hC0 (by decide) hi0_run rfl (hiVs (f 4) 0 0 0 0 1) (fun _ => f) fun st => ⟨stp_add (k := 0) (m := 1) rfl rfl (by omega), fa_list ⟨f_lt ?_, trivial⟩ trivial,
   ⟨ent_y (k := 1) (read_p (a := 4) (by omega) f) (by omega) rfl (fun ρ => rfl) (fun ρ => rfl), trivial⟩, ps_list ⟨pe_len (hand st _ _ rfl) ⟨s0, by omega⟩ ?_, trivial⟩, fun ρ => rfl, fun ρ => rfl⟩)⟩
  ·rw [den_subi (x := 0) (y := 1) rfl rfl (by omega) (by omega)]
   show (0 : Int) - 1 < 0
   omega
  ·rw [h0]; rfl
 ·obtain ⟨g, k, hg, hk, b1, hw0, b2, ht⟩ := top_some h h0
  obtain ⟨w0, w1, _⟩ := h.bm g hg
  have hp : 64 * g + k < 256 := by omega
  obtain ⟨n, ⟨pn, un⟩, cn⟩ := fronts_p hp (q_w64 TT_thr h hp).1
  refine ⟨some (64 * g + k), ht, 0 + 1 + 1 + n, ⟨by omega, by omega⟩, ?_⟩
  have hH := headOf_eq TT_thr h hp
  refine memC_x hC0 (by decide) hi1_run rfl (hiVs (f 4) ((g + 1 : Nat) : Int) (f (8 + g)) ((k + 1 : Nat) : Int) (headOf f (64 * g + k)) n) (fun _ => f) fun st => ?_
  generalize hE : envX cP.N st (hiVs (f 4) ((g + 1 : Nat) : Int) (f (8 + g)) ((k + 1 : Nat) : Int) (headOf f (64 * g + k)) n) (fun _ => f) = E'
  have v200 : SE.den E' (.v 200) = ((g + 1 : Nat) : Int) := by rw [← hE]; rfl
  have v300 : SE.den E' (.v 300) = f (8 + g) := by rw [← hE]; rfl
  have v400 : SE.den E' (.v 400) = ((k + 1 : Nat) : Int) := by rw [← hE]; rfl
  have d1 := den_subi (b := .lit 1) (y := 1) v200 rfl (by omega) (by omega)
  have d2 := den_addi (a := .lit 8) (x := 8) rfl d1 (by omega) (by omega)
  have d3 := den_muli (b := .lit 64) (y := 64) d1 rfl (by omega) (by omega)
  have d4 := den_subi (b := .lit 1) (y := 1) v400 rfl (by omega) (by omega)
  have d5 := den_addi d3 d4 (by omega) (by omega)
  have hand' : SE.den E' (.op .and .u64 (.v 100) (.lit 15)) = f 4 := by rw [← hE]; exact hand st _ _ rfl
  have i200 : E'.i 200 = (Lib.bitLen (f 4).toNat : Nat) := by rw [← hE, b1]; rfl
  have i400 : E'.i 400 = (Lib.bitLen (f (8 + g)).toNat : Nat) := by rw [← hE, b2]; rfl
  have l1 := pe_len hand' ⟨s0, by omega⟩ i200
  have l2 := pe_len v300 ⟨w0, w1⟩ i400
  have e2 : SE.den E' (.op .add .i64 (.lit 8) (.op .sub .i64 (.v 200) (.lit 1))) = ((8 + g : Nat) : Int) := by rw [d2]; omega
  have e5 : SE.den E' (.op .add .i64 (.op .mul .i64 (.op .sub .i64 (.v 200) (.lit 1)) (.lit 64)) (.op .sub .i64 (.v 400) (.lit 1))) = ((64 * g + k : Nat) : Int) := by rw [d5]; omega
  have z1 : ¬ SE.den E' (.op .sub .i64 (.v 200) (.lit 1)) < 0 := by rw [d1]; omega
  have hret : ∀ ρ, (V.si .i64 (.v 500)).γ E' ρ = .int .i64 (topH Q (some (64 * g + k))) := fun ρ => by
   rw [← hE]
   exact vsi hH
  subst hE
  exact ⟨stp_add (k := 0 + 1 + 1) (m := n) (stp_add (k := 0 + 1) (m := 1) (stp_add (k := 0) (m := 1) rfl rfl (by omega)) rfl (by omega)) rfl pn,
   fa_list ⟨f_ltn (show (0 : Int) ≤ _ by omega), f_eqn (show SE.den _ _ ≠ (0 : Int) by rw [v300]; exact hw0), trivial⟩ trivial,
   ⟨ent_y (k := 1) (read_p (a := 4) (by omega) f) (by omega) rfl (fun ρ => rfl) (fun ρ => rfl), ent_y (k := 1) (read_p (a := 8 + g) (by omega) f) (by omega) rfl (fun ρ => arg1 (vsi e2)) (fun ρ => rfl),
    ent_y cn pn rfl (fun ρ => arg1 (vsi e5)) (fun ρ => rfl), trivial⟩, ps_list ⟨l1, l2, trivial⟩, fun ρ => rfl, hret⟩

end Go.Ev.X
end
