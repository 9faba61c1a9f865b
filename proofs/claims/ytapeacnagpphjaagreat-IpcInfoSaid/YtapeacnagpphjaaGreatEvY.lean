/-
  A chunk of a run: a call's end, but for what nobody can reach any more.
-/
import Derived.Test.YtapeacnagpphjaaGreatEvX
set_option linter.unusedSimpArgs false
set_option linter.unusedVariables false
noncomputable section
namespace Go.Ev
open Go
variable {E : Env} {P : Program}
def ooSub : Option O → Option O → Bool
  | none, _ => true
  | some a, some b => O.beq a b
  | _, _ => false
theorem ooSub_ok {x y : Option O} (h : ooSub x y = true) {o : O} (hx : x = some o) : y = some o := by
  subst hx
  cases y <;> simp only [ooSub] at h <;> first | (simp at h; done) | rw [O.beq_ok h]
def ptSub : PT O → PT O → Bool
  | .e, _ => true
  | .n v l r, .n v' l' r' => ooSub v v' && ptSub l l' && ptSub r r'
  | _, _ => false
theorem ptSub_ok : ∀ (a b : PT O), ptSub a b = true → ∀ (p : Ev.P) (o : O), a.get p = some o → b.get p = some o
  | .e, b, h, p, o, hp => by rw [PT.get_e] at hp; simp at hp
  | .n v l r, .e, h, p, o, hp => by simp [ptSub] at h
  | .n v l r, .n v' l' r', h, p, o, hp => by
    simp only [ptSub, Bool.and_eq_true] at h
    cases p with
    | h => exact ooSub_ok h.1.1 hp
    | o p => exact ptSub_ok l l' h.1.2 p o hp
    | i p => exact ptSub_ok r r' h.2 p o hp
/-- the end is v, and hq at least -/
def chk (v : V) (hq : H) : K := fun v2 h2 _ => bc (V.beq v2 v) (bc (hc hq (fun n lo t => hc h2 (fun n' lo' t' => pEq n n' && pEq lo lo' && ptSub t t'))) 0 1) 1
theorem chk_ok {v v2 : V} {hq h2 : H} {fa : Fa} (h : chk v hq v2 h2 fa = 0) : v2 = v ∧ hq.n = h2.n ∧ hq.lo = h2.lo ∧ ∀ p o, hq.t.get p = some o → h2.t.get p = some o := by
  obtain ⟨e1, h⟩ := bc_ok (show bc (V.beq v2 v) _ 1 = 0 from h) (by simp)
  obtain ⟨e2, _⟩ := bc_ok (show bc (hc hq _) 0 1 = 0 from h) (by simp)
  rw [hc_eq, hc_eq] at e2
  simp only [Bool.and_eq_true] at e2
  exact ⟨V.beq_ok e1, pEq_ok e2.1.1, pEq_ok e2.1.2, ptSub_ok _ _ e2.2⟩
theorem chunk_ok {m : Memo} {inner inner0 : CallT} (h1 : CallOk E P inner) (h0 : CallOk E P inner0) (hlo : m.h.lo = .h) (hm : inner0 m.F m.l m.h ⟨[], []⟩ (chk m.v m.h') = 0) : CallOk E P (memo m inner) := by
  intro F l h fa k hk hfa
  unfold memo at hk
  cases e1 : Nat.beq F m.F with
  | false => rw [e1] at hk; exact h1 F l h fa k hk hfa
  | true =>
    rw [e1] at hk
    have hk : bc (vlBeq l m.l) (bc (H.beq h m.h) (k m.v m.h' fa) (inner F l h fa k)) (inner F l h fa k) = 0 := hk
    cases e2 : vlBeq l m.l with
    | false => rw [e2] at hk; exact h1 F l h fa k hk hfa
    | true =>
      rw [e2] at hk
      have hk : bc (H.beq h m.h) (k m.v m.h' fa) (inner F l h fa k) = 0 := hk
      cases e3 : H.beq h m.h with
      | false => rw [e3] at hk; exact h1 F l h fa k hk hfa
      | true =>
        rw [e3] at hk
        have hk : k m.v m.h' fa = 0 := hk
        have e1 : F = m.F := by simpa using e1
        have e2 := vlBeq_ok e2
        have e3 := H.beq_ok e3
        subst e1; subst e2; subst e3
        obtain ⟨hca, v, h2, fa2, hc, _, hrun⟩ := h0 _ _ _ _ _ hm FaOk.nil
        obtain ⟨rfl, en, el, hs⟩ := chk_ok hc
        refine ⟨hca, m.v, m.h', fa, hk, hfa, fun ρ w hb hsat => (hrun ρ w hb hsat).mono ?_⟩
        rintro e w' ⟨ρ', rfl, s, x, hv⟩
        refine ⟨ρ', rfl, ⟨fun p o hp => s.obj p o (hs p o hp), fun p q o o' hp hq => s.inj p q o o' (hs p o hp) (hs q o' hq), fun p o hp => by rw [en]; exact s.bd p o (hs p o hp)⟩, ?_, by rw [en]; exact hv⟩
        refine ⟨by rw [en]; exact x.len, el.trans x.lo, x.agree, fun p o hp hg hl => x.new p o hp (hs p o hg) hl, x.os, x.tape, x.output, x.size, x.keep, fun p hp _ => ?_, fun p o' hp hg hl => x.liv p o' hp (hs p o' hg) hl⟩
        rw [hlo] at hp
        have h3 := Ev.P.toNat_pos p
        have h4 : (Ev.P.h).toNat = 1 := rfl
        omega
end Go.Ev
end
