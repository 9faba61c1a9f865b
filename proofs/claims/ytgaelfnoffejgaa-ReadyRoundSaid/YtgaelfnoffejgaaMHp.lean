/-
 Contracts: which thread is the current one; the front of a queue; the highest one (the program's).
-/
import Derived.Test.YtgaelfnoffejgaaMWp
set_option linter.unusedSimpArgs false
set_option linter.unusedVariables false
set_option maxRecDepth 100000
noncomputable section
namespace Go.Ev.X
open Go Go.Ev Go.Proofs Go.RowKit
variable {E : Env} {f : Nat → Int} {Q : Nat → List Nat} {t : Nat}
def frE (F : Nat) : List Ent := [⟨F, [.si .i64 (.v 1)], 1, .tup [.si .i64 (.v 100), .si .i64 (.v 101)], .v 9000⟩]
theorem frontP_run : runX cx0 cP (frE 32) [] 15 [.si .i64 (.v 1)] ⟨[((.cmp .geq (.v 1) (.lit 0)), true), ((.cmp .lss (.v 1) (.lit 256)), true)], []⟩ (.si .i64 (.v 100)) 1 s1 = 0 := by decide +kernel
def frVs (f : Nat → Int) (p : Nat) (k : Nat) : Nat → Int := fun i => match i / 100 with
 | 0 => p
 | 1 => if i = 100 then headOf f p else tailOf f p
 | 90 => k
 | _ => 0
theorem fronts_p {p : Nat} (hp : p < 256) (hw : W64 (f (256 + p))) : MemE PP cP 15 [.int .i64 p] f (.int .i64 (headOf f p)) f := by
 obtain ⟨k, pk, ck⟩ := ends_p hp hw
 exact ⟨0 + k, by omega, memC_x hC0 (by decide) frontP_run rfl (frVs f p k) (fun _ => f) fun st => ⟨stp_add (k := 0) (m := k) rfl rfl pk, fa_list ⟨f_ge (show (0 : Int) ≤ p by omega), f_lt (show (p : Int) < 256 by omega), trivial⟩ trivial,
  ⟨ent_y ck pk rfl (fun ρ => rfl) (fun ρ => rfl), trivial⟩, ps_list trivial, fun ρ => rfl, fun ρ => rfl⟩⟩
end Go.Ev.X
end
