/-
 The same of the document's.
-/
import Derived.Test.YtgaelfnoffejgaaMQ
import Derived.Test.YtgaelfnoffejgaaMBR
import Derived.Test.YtgaelfnoffejgaaMQy
set_option linter.unusedSimpArgs false
set_option linter.unusedVariables false
set_option maxRecDepth 100000
noncomputable section
namespace Go.Ev.X
open Go Go.Ev Go.Proofs
variable {E : Env} {f : Nat → Int}
theorem ends_r {p : Nat} (hp : p < 256) (hw : W64 (f (256 + p))) : MemE PP cR 63 [.int .i64 p] f (.tuple #[.int .i64 (headOf f p), .int .i64 (tailOf f p)]) f := by
 refine mem1 (k := 0) (memC_x hC0 (by decide) (Nat.eq_of_beq_eq_true (rng_ok endsR_run p hp)) rfl (endsVs f p) (fun _ => f) fun st => ⟨stp_add (k := 0) (m := 1) rfl rfl (by omega), fa_list trivial trivial, ⟨ent_y (read_r (by omega) f) (by omega) rfl (fun ρ => rfl) (fun ρ => rfl), trivial⟩, ps_list trivial, fun ρ => rfl, fun ρ => ?_⟩)
 have v : SE.den (envX cR.N st (endsVs f p) (fun _ => f)) (.v 100) = f (256 + p) := rfl
 have e1 := den_cvi (den_rem (m := 65536) v hw.1) (by omega) (by omega)
 have e2 := den_cvi (den_rem (m := 65536) (den_shr' (A := 65536) 16 rfl (by omega) v hw.1) (by have := hw.1; omega)) (by omega) (by omega)
 exact tup2 (vsi e1) (vsi e2)
def setVr (h l x y : Int) : Nat → Int := fun i => match i / 100 with
 | 0 => if i = 2 then h else l
 | 2 => x
 | 4 => y
 | 90 => 1
 | _ => 0
theorem setEnds_r {p : Nat} (hp : p < 256) {h l : Int} (hh : 0 ≤ h ∧ h < 65536) (hl : 0 ≤ l ∧ l < 65536) (hb : W64 (f (8 + p / 64))) (hs : W64 (f 4)) : MemE PP cR 64 [.int .i64 p, .int .i64 h, .int .i64 l] f (.tuple #[]) (setQ f p h l) := by
 obtain ⟨f1, hf1⟩ : ∃ f1, f1 = upd f (256 + p) (h + l * 65536) := ⟨_, rfl⟩
 have b1 : f1 (8 + p / 64) = f (8 + p / 64) := by rw [hf1, upd_other _ _ (by omega)]
 obtain ⟨w, hw⟩ : ∃ w, w = bitW (f1 (8 + p / 64)) (p % 64) (!decide (h = 0)) := ⟨_, rfl⟩
 obtain ⟨f2, hf2⟩ : ∃ f2, f2 = upd f1 (8 + p / 64) w := ⟨_, rfl⟩
 have b2' : f2 4 = f 4 := by rw [hf2, upd_other _ _ (by omega), hf1, upd_other _ _ (by omega)]
 have hr := Nat.eq_of_beq_eq_true (allB_ok (allB_ok (rng_ok setr_run p hp) (!decide (h = 0)) (b_mem _)) (!decide (w = 0)) (b_mem _))
 have hfin : setQ f p h l = upd f2 4 (bitW (f2 4) (p / 64) (!decide (w = 0))) := by
  unfold setQ
  rw [b2', hf2, hw, b1, hf1]
 rw [hfin]
 refine mem1 (k := 4) (memC_x hC0 (by decide) hr rfl (setVr h l (f1 (8 + p / 64)) (f2 4)) (fun q => match q with | 0 => f | 1 => f1 | 2 => f1 | 3 => f2 | 4 => f2 | _ => upd f2 4 (bitW (f2 4) (p / 64) (!decide (w = 0)))) fun st => ?_)
 generalize hE : envX cR.N st (setVr h l (f1 (8 + p / 64)) (f2 4)) (fun q => match q with | 0 => f | 1 => f1 | 2 => f1 | 3 => f2 | 4 => f2 | _ => upd f2 4 (bitW (f2 4) (p / 64) (!decide (w = 0)))) = E'
 have v2 : E'.i 2 = h := by rw [← hE]; rfl
 have v3 : E'.i 3 = l := by rw [← hE]; rfl
 have v200 : SE.den E' (.v 200) = f1 (8 + p / 64) := by rw [← hE]; rfl
 have v400 : SE.den E' (.v 400) = f2 4 := by rw [← hE]; rfl
 have d : SE.den E' (.op .add .u64 (.cv .u64 (.v 2)) (.op .shl .u64 (.cv .u64 (.v 3)) (.lit 16))) = h + l * 65536 := by
  have e2 := den_cvu (E := E') (e := .v 2) (x := h) v2 hh.1 (by omega)
  have e3 := den_shl' (E := E') (A := 65536) 16 rfl (by omega) (den_cvu (e := .v 3) (x := l) v3 hl.1 (by omega)) hl.1 (by omega)
  exact den_addu e2 e3 (by omega) (by omega)
 have d3 := bitE_den (k := p % 64) (by omega) (!decide (h = 0)) v200 (by rw [b1]; exact hb)
 rw [← hw] at d3
 have d5 := bitE_den (k := p / 64) (by omega) (!decide (w = 0)) v400 (by rw [b2']; exact hs)
 have n2 := nz_den v2
 have n3 : SB.den E' (.cmp .neq (bitE (p % 64) (!decide (h = 0)) (.v 200)) (.lit 0)) = !decide (w = 0) := by
  show (!iEq (SE.den E' (bitE (p % 64) (!decide (h = 0)) (.v 200))) 0) = _
  rw [d3, iEq_eq]
 subst hE
 exact ⟨stp_add (k := 4) (m := 1) (stp_add (k := 3) (m := 1) (stp_add (k := 2) (m := 1) (stp_add (k := 1) (m := 1) (stp_add (k := 0) (m := 1) rfl rfl (by omega)) rfl (by omega)) rfl (by omega)) rfl (by omega)) rfl (by omega), fa_list ⟨n2, n3, trivial⟩ trivial,
  ⟨ent_y (k := 1) (by rw [hf1]; exact write_r (by omega) f _) (by omega) rfl (fun ρ => arg2 rfl (vsi d)) (fun ρ => rfl), ent_y (k := 1) (read_r (a := 8 + p / 64) (by omega) f1) (by omega) rfl (fun ρ => rfl) (fun ρ => rfl),
   ent_y (k := 1) (by rw [hf2]; exact write_r (a := 8 + p / 64) (by omega) f1 _) (by omega) rfl (fun ρ => arg2 rfl (vsi d3)) (fun ρ => rfl), ent_y (k := 1) (read_r (a := 4) (by omega) f2) (by omega) rfl (fun ρ => rfl) (fun ρ => rfl),
   ent_y (k := 1) (write_r (a := 4) (by omega) f2 _) (by omega) rfl (fun ρ => arg2 rfl (vsi d5)) (fun ρ => rfl), trivial⟩, ps_list trivial, fun ρ => rfl, fun ρ => rfl⟩
end Go.Ev.X
end
