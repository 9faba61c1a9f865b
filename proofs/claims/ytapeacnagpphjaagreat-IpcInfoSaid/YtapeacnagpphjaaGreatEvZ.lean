/-
  Hooks: a function whose contract is known already.
-/
import Derived.Test.YtapeacnagpphjaaGreatEvY
import Derived.Lib.BitFns
set_option linter.unusedSimpArgs false
set_option linter.unusedVariables false
noncomputable section
namespace Go.Ev
open Go
variable {E : Env} {P : Program}
/-- a function of its arguments alone, that leaves the heap as it is -/
def pureHook (f : List V → Option V) : List V → H → Fa → K → Nat := fun l h fa k => oc (f l) (fun v => k v h fa) 1
theorem pureHook_ok {F : Nat} {f : List V → Option V} (hca : Callable P F)
    (hf : ∀ l v, f l = some v → v.bd 0 ∧ ∀ (E : Env) (ρ : Rho) (w : World), Calls P F (γL E ρ l).toArray w fun e w' => e = .returned (v.γ E ρ) ∧ w'.heap = w.heap ∧ w'.os = w.os ∧ w'.tape = w.tape ∧ w'.output = w.output) :
    CallOk E P (fun G l h fa k => bc (Nat.beq G F) (pureHook f l h fa k) 1) := by
  intro G l h fa k hk hfa
  obtain ⟨hG, hk2⟩ := bc_ok (show bc (Nat.beq G F) (pureHook f l h fa k) 1 = 0 from hk) (by simp)
  clear hk
  have hG : G = F := by simpa using hG
  subst hG
  obtain ⟨v, hv, hk⟩ := oc_ok (show oc (f l) _ 1 = 0 from hk2) (by simp)
  obtain ⟨h1, h2⟩ := hf l v hv
  refine ⟨hca, v, h, fa, hk, hfa, fun ρ w hb hs => (h2 E ρ w).mono ?_⟩
  rintro e w' ⟨he, hh, ho, ht, hu⟩
  exact ⟨ρ, he, ⟨fun p o hp => by rw [hh]; exact hs.obj p o hp, hs.inj, hs.bd⟩,
    ⟨Nat.le_refl _, rfl, fun _ _ => rfl, fun p o h3 h4 => by have := (hs.bd p o h4).1; omega, ho, ht, hu, by rw [hh]; exact Nat.le_refl _, fun _ _ _ => by rw [hh], fun _ _ _ => rfl, fun p o _ h3 h4 => ⟨o, h3, h4⟩⟩, bd_mono (Nat.zero_le _) v h1⟩
/-- the length of a word in bits, of a literal -/
def len64F : List V → Option V
  | [.i .u64 (.ofNat n)] => bc (Nat.blt n 18446744073709551616) (some (.i .i64 (.ofNat (Lib.bitLen n)))) none
  | _ => none
theorem len64_ok {F : Nat} (hca : Callable P F)
    (hc : ∀ (x : Int) (w : World), 0 ≤ x → x ≤ 18446744073709551615 → Calls P F #[.int .u64 x] w fun e w' => e = .returned (.int .i64 (Lib.bitLen x.toNat)) ∧ w' = w) :
    CallOk E P (fun G l h fa k => bc (Nat.beq G F) (pureHook len64F l h fa k) 1) := by
  refine pureHook_ok hca fun l v hv => ?_
  unfold len64F at hv
  split at hv
  · rename_i n
    cases hn : Nat.blt n 18446744073709551616 with
    | false => rw [hn] at hv; cases hv
    | true =>
      rw [hn] at hv
      have hv : some (V.i .i64 (.ofNat (Lib.bitLen n))) = some v := hv
      cases hv
      have hn : n < 18446744073709551616 := by simpa using hn
      refine ⟨trivial, fun E ρ w => (hc (.ofNat n) w (Int.natCast_nonneg n) (by show (n : Int) ≤ _; omega)).mono ?_⟩
      rintro e w' ⟨rfl, rfl⟩
      exact ⟨rfl, rfl, rfl, rfl, rfl⟩
  · cases hv
end Go.Ev
end
