/-
 Contracts of what reads and writes a queue's ends and the bits (the program's).
-/
import Derived.Test.YtgaelfnoffejgaaMQx
set_option linter.unusedSimpArgs false
set_option linter.unusedVariables false
set_option maxRecDepth 100000
noncomputable section
namespace Go.Ev.X
open Go Go.Ev Go.Proofs
variable {E : Env} {f : Nat → Int}
def W64 (x : Int) : Prop := 0 ≤ x ∧ x < 18446744073709551616
theorem tup2 {ρ : Rho} {x y : V} {a b : Value} (h1 : x.γ E ρ = a) (h2 : y.γ E ρ = b) : (V.tup [x, y]).γ E ρ = .tuple #[a, b] := by simp only [V.γ, γL, h1, h2]
theorem bit_den (k : Nat) (hk : k < 64) {e : SE} {w : Int} (he : e.den E = w) (hw : W64 w) :
  SE.den E (.op .andNot .u64 e (.lit (.ofNat (2 ^ k)))) = bitW w k false ∧ SE.den E (.op .or .u64 (.op .andNot .u64 e (.lit (.ofNat (2 ^ k)))) (.lit (.ofNat (2 ^ k)))) = bitW w k true := by
 obtain ⟨h0, h1⟩ := hw
 obtain ⟨x, rfl⟩ := Int.eq_ofNat_of_zero_le h0
 have h64 : (2 : Nat) ^ 64 = 18446744073709551616 := by decide
 have hk2 : 2 ^ k < 18446744073709551616 := by rw [← h64]; exact Nat.pow_lt_pow_right (by omega) hk
 have hx : x < 2 ^ 64 := by omega
 have e1 : arS .andNot .u64 (e.den E) (Int.ofNat (2 ^ k)) = ((bitN x k false : Nat) : Int) := by
  rw [he]
  exact arS_andNot x (2 ^ k) (by omega) hk2
 have hb : bitN x k false < 18446744073709551616 := by rw [← h64]; exact bitN_lt false hx hk
 refine ⟨e1, ?_⟩
 show arS .or .u64 (arS .andNot .u64 (e.den E) (Int.ofNat (2 ^ k))) (Int.ofNat (2 ^ k)) = _
 rw [e1]
 exact arS_or _ _ hb hk2
theorem bitW_64 {w : Int} {k : Nat} (hk : k < 64) (on : Bool) (hw : W64 w) : W64 (bitW w k on) := by
 obtain ⟨h0, h1⟩ := hw
 have h64 : (2 : Nat) ^ 64 = 18446744073709551616 := by decide
 have := bitN_lt (w := w.toNat) (k := k) (n := 64) on (by omega) hk
 exact ⟨Int.natCast_nonneg _, by unfold bitW; omega⟩
def endsVs (f : Nat → Int) (p : Nat) : Nat → Int := fun i => match i / 100 with
 | 1 => f (256 + p)
 | 90 => 1
 | _ => 0
theorem ends_p {p : Nat} (hp : p < 256) (hw : W64 (f (256 + p))) : MemB PP cP 1 32 [.int .i64 p] f (.tuple #[.int .i64 (headOf f p), .int .i64 (tailOf f p)]) f := by
 refine memb1 (k := 0) (memC_x hC0 (by decide) (Nat.eq_of_beq_eq_true (rng_ok endsP_run p hp)) rfl (endsVs f p) (fun _ => f) fun st => ⟨stp_add (k := 0) (m := 1) rfl rfl (by omega), fa_list trivial trivial, ⟨ent_y (read_p (by omega) f) (by omega) rfl (fun ρ => rfl) (fun ρ => rfl), trivial⟩, ps_list trivial, fun ρ => rfl, fun ρ => ?_⟩)
 have v : SE.den (envX cP.N st (endsVs f p) (fun _ => f)) (.v 100) = f (256 + p) := rfl
 have e1 := den_cvi (den_low (m := 65535) 16 rfl (by omega) v hw.1 hw.2) (by omega) (by omega)
 have e2 := den_cvi (den_low (m := 65535) 16 rfl (by omega) (den_shr' (A := 65536) 16 rfl (by omega) v hw.1) (by have := hw.1; omega) (by have := hw.2; omega)) (by omega) (by omega)
 exact tup2 (vsi e1) (vsi e2)
theorem bitE_den {k : Nat} (hk : k < 64) (on : Bool) {e : SE} {w : Int} (he : e.den E = w) (hw : W64 w) : (bitE k on e).den E = bitW w k on := by
 obtain ⟨h1, h2⟩ := bit_den k hk he hw
 cases on with
 | true => exact h2
 | false => exact h1
def markVs (f : Nat → Int) (a : Nat) : Nat → Int := fun i => match i / 100 with
 | 0 => a
 | 1 => f a
 | 90 => 1
 | _ => 0
theorem mark_p {a k : Nat} (ha : a < 512) (hk : k < 64) (on : Bool) (hw : W64 (f a)) : MemB PP cP 2 60 [.int .i64 a, .int .i64 k, .bool on] f (.int .u64 (bitW (f a) k on)) (upd f a (bitW (f a) k on)) := by
 have hr := Nat.eq_of_beq_eq_true (allB_ok (rng_ok mark_run k hk) on (b_mem on))
 refine memb1 (k := 1) (memC_x hC0 (by decide) hr rfl (markVs f a) (fun q => match q with | 2 => upd f a (bitW (f a) k on) | _ => f) fun st => ?_)
 have v : SE.den (envX cP.N st (markVs f a) (fun q => match q with | 2 => upd f a (bitW (f a) k on) | _ => f)) (.v 100) = f a := rfl
 have d := bitE_den hk on v hw
 exact ⟨stp_add (k := 1) (m := 1) (stp_add (k := 0) (m := 1) rfl rfl (by omega)) rfl (by omega), fa_list trivial trivial,
  ⟨ent_y (read_p ha f) (by omega) rfl (fun ρ => rfl) (fun ρ => rfl), ent_y (write_p ha f _) (by omega) rfl (fun ρ => arg2 rfl (vsi d)) (fun ρ => rfl), trivial⟩, ps_list trivial, fun ρ => rfl, fun ρ => vsi d⟩
def setVs (h l x y : Int) (k : Nat → Int) : Nat → Int := fun i => match i / 100 with
 | 0 => if i = 2 then h else l
 | 2 => x
 | 3 => y
 | 90 => k (i % 100)
 | _ => 0
theorem nz_den {i : Nat} {x : Int} (h : E.i i = x) : SB.den E (.cmp .neq (.v i) (.lit 0)) = !decide (x = 0) := by
 show (!iEq (E.i i) 0) = _
 rw [iEq_eq, h]
theorem setEnds_p {p : Nat} (hp : p < 256) {h l : Int} (hh : 0 ≤ h ∧ h < 65536) (hl : 0 ≤ l ∧ l < 65536) (hb : W64 (f (8 + p / 64))) (hs : W64 (f 4)) : MemB PP cP 5 36 [.int .i64 p, .int .i64 h, .int .i64 l] f (.tuple #[]) (setQ f p h l) := by
 have hr := Nat.eq_of_beq_eq_true (rng_ok set_run p hp)
 obtain ⟨f1, hf1⟩ : ∃ f1, f1 = upd f (256 + p) (h + l * 65536) := ⟨_, rfl⟩
 have b1 : f1 (8 + p / 64) = f (8 + p / 64) := by rw [hf1, upd_other _ _ (by omega)]
 obtain ⟨w, hw⟩ : ∃ w, w = bitW (f1 (8 + p / 64)) (p % 64) (!decide (h = 0)) := ⟨_, rfl⟩
 obtain ⟨f2, hf2⟩ : ∃ f2, f2 = upd f1 (8 + p / 64) w := ⟨_, rfl⟩
 have b2' : f2 4 = f 4 := by rw [hf2, upd_other _ _ (by omega), hf1, upd_other _ _ (by omega)]
 obtain ⟨k1, ⟨p1, uk1⟩, m1⟩ := mark_p (f := f1) (a := 8 + p / 64) (k := p % 64) (by omega) (by omega) (!decide (h = 0)) (by rw [b1]; exact hb)
 obtain ⟨k2, ⟨p2, uk2⟩, m2⟩ := mark_p (f := f2) (a := 4) (k := p / 64) (by omega) (by omega) (!decide (w = 0)) (by rw [b2']; exact hs)
 rw [← hw, ← hf2] at m1
 refine ⟨0 + 1 + k1 + k2, ⟨by omega, by omega⟩, ?_⟩
 have hfin : setQ f p h l = upd f2 4 (bitW (f2 4) (p / 64) (!decide (w = 0))) := by
  unfold setQ
  rw [b2', hf2, hw, b1, hf1]
 rw [hfin]
 refine memC_x hC0 (by decide) hr rfl (setVs h l w (bitW (f2 4) (p / 64) (!decide (w = 0))) (fun j => match j with | 0 => 1 | 1 => k1 | _ => k2)) (fun q => match q with | 0 => f | 1 => f1 | 2 => f2 | _ => upd f2 4 (bitW (f2 4) (p / 64) (!decide (w = 0)))) fun st => ?_
 generalize hE : envX cP.N st (setVs h l w (bitW (f2 4) (p / 64) (!decide (w = 0))) (fun j => match j with | 0 => 1 | 1 => k1 | _ => k2)) (fun q => match q with | 0 => f | 1 => f1 | 2 => f2 | _ => upd f2 4 (bitW (f2 4) (p / 64) (!decide (w = 0)))) = E'
 have v2 : E'.i 2 = h := by rw [← hE]; rfl
 have v3 : E'.i 3 = l := by rw [← hE]; rfl
 have v200 : E'.i 200 = w := by rw [← hE]; rfl
 have d : SE.den E' endE = h + l * 65536 := by
  have e2 := den_cvu (E := E') (e := .v 2) (x := h) v2 hh.1 (by omega)
  have e3 := den_shl' (E := E') (A := 65536) 16 rfl (by omega) (den_cvu (e := .v 3) (x := l) v3 hl.1 (by omega)) hl.1 (by omega)
  have := den_or (E := E') 16 l (show l * 65536 = l * 2 ^ 16 by rfl) hl.1 e3 e2 hh.1 (by show h < 65536; omega) (by omega) (by omega)
  exact this.trans (by omega)
 have n2 := nz_den v2
 have n200 := nz_den v200
 subst hE
 exact ⟨stp_add (k := 0 + 1 + k1) (m := k2) (stp_add (k := 0 + 1) (m := k1) (stp_add (k := 0) (m := 1) rfl rfl (by omega)) rfl p1) rfl p2, fa_list trivial trivial,
  ⟨ent_y (k := 1) (by rw [hf1]; exact write_p (by omega) f _) (by omega) rfl (fun ρ => arg2 rfl (vsi d)) (fun ρ => rfl),
   ent_y m1 p1 rfl (fun ρ => arg3 rfl rfl (vsb n2)) (fun ρ => rfl), ent_y m2 p2 rfl (fun ρ => arg3 rfl rfl (vsb n200)) (fun ρ => rfl), trivial⟩, ps_list trivial, fun ρ => rfl, fun ρ => rfl⟩
end Go.Ev.X
end
