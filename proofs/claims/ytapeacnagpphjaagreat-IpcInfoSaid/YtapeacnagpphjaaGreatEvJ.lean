/-
  What is known of the symbols.
-/
import Derived.Test.YtapeacnagpphjaaGreatEvI
set_option linter.unusedSimpArgs false
set_option linter.unusedVariables false
noncomputable section
namespace Go.Ev
open Go
variable {E : Env}
structure FaOk (E : Env) (fa : Fa) : Prop where
  l : ∀ c b, (c, b) ∈ fa.l → c.den E = b
  r : ∀ i a b, (i, a, b) ∈ fa.r → a ≤ E.i i ∧ E.i i ≤ b
theorem FaOk.nil : FaOk E ⟨[], []⟩ := ⟨fun _ _ h => (by cases h), fun _ _ _ h => (by cases h)⟩
theorem FaOk.cons {fa : Fa} (h : FaOk E fa) {c : SB} {b : Bool} (hc : c.den E = b) : FaOk E ⟨(c, b) :: fa.l, fa.r⟩ :=
  ⟨fun c' b' h' => by
    rcases List.mem_cons.1 h' with h' | h'
    · cases h'; exact hc
    · exact h.l _ _ h', h.r⟩
theorem oEq_eq {a b : BinOp} (h : oEq a b = true) : a = b := by
  cases a <;> cases b <;> first | rfl | (simp [oEq, oNum] at h)
theorem SE.beq_eq : ∀ {a b : SE}, SE.beq a b = true → a = b
  | .v i, b, h => by cases b <;> simp [SE.beq] at h; subst h; rfl
  | .lit n, b, h => by cases b <;> simp [SE.beq, iEq_eq] at h; subst h; rfl
  | .op o k x y, b, h => by
    cases b <;> simp [SE.beq] at h
    obtain ⟨⟨⟨h1, h2⟩, h3⟩, h4⟩ := h
    rw [oEq_eq h1, kEq_eq h2, SE.beq_eq h3, SE.beq_eq h4]
  | .cv k x, b, h => by
    cases b <;> simp [SE.beq] at h
    obtain ⟨h1, h2⟩ := h
    rw [kEq_eq h1, SE.beq_eq h2]
  | .mm mx x y, b, h => by
    cases b <;> cases mx <;> (try (simp [SE.beq] at h; done)) <;> (rename_i mx' a' b'; cases mx' <;> simp [SE.beq] at h; rw [SE.beq_eq h.1, SE.beq_eq h.2])
theorem SB.beq_eq : ∀ {a b : SB}, SB.beq a b = true → a = b
  | .v i, b, h => by cases b <;> simp [SB.beq] at h; subst h; rfl
  | .cmp o x y, b, h => by
    cases b <;> simp [SB.beq] at h
    obtain ⟨⟨h1, h2⟩, h3⟩ := h
    rw [oEq_eq h1, SE.beq_eq h2, SE.beq_eq h3]
  | .not x, b, h => by
    cases b <;> simp [SB.beq] at h
    rw [SB.beq_eq h]
  | .and x y, b, h => by
    cases b <;> simp [SB.beq] at h
    rw [SB.beq_eq h.1, SB.beq_eq h.2]
theorem rngV_ok : ∀ (r : List (Nat × Int × Int)) (j : Nat) (p q : Int), rngV r j = some (p, q) → (j, p, q) ∈ r
  | [], j, p, q, h => by simp [rngV] at h
  | (i, a, b) :: r, j, p, q, h => by
    simp only [rngV] at h
    split at h
    · rename_i e
      have e : i = j := by simpa using e
      subst e
      simp at h; obtain ⟨rfl, rfl⟩ := h
      exact List.mem_cons_self
    · exact List.mem_cons_of_mem _ (rngV_ok r j p q h)
theorem fits_wrap {k : IntKind} {a b x : Int} (h : fitsK k a b = true) (h1 : a ≤ x) (h2 : x ≤ b) : k.wrap x = x := by
  cases k <;> simp [fitsK] at h
  · rw [IntKind.wrap_i64]; omega
  · rw [IntKind.wrap_u64]; omega
theorem SE.rng_ok {fa : Fa} (hf : FaOk E fa) : ∀ (x : SE) (p q : Int), x.rng fa.r = some (p, q) → p ≤ x.den E ∧ x.den E ≤ q
  | .v i, p, q, h => hf.r _ _ _ (rngV_ok _ _ _ _ h)
  | .lit n, p, q, h => by simp [SE.rng] at h; obtain ⟨rfl, rfl⟩ := h; exact ⟨Int.le_refl _, Int.le_refl _⟩
  | .op o k x y, p, q, h => by
    simp only [SE.rng] at h
    split at h
    · rename_i a b c d hx hy
      obtain ⟨x1, x2⟩ := SE.rng_ok hf x _ _ hx
      obtain ⟨y1, y2⟩ := SE.rng_ok hf y _ _ hy
      split at h
      · rename_i hfit
        simp at h; obtain ⟨rfl, rfl⟩ := h
        have : SE.den E (.op .add k x y) = k.wrap (x.den E + y.den E) := by simp [SE.den, arS, arI, wrapF_eq]
        rw [this, fits_wrap hfit (by omega) (by omega)]
        omega
      · simp at h
    · rename_i a b c d hx hy
      obtain ⟨x1, x2⟩ := SE.rng_ok hf x _ _ hx
      obtain ⟨y1, y2⟩ := SE.rng_ok hf y _ _ hy
      split at h
      · rename_i hfit
        simp at h; obtain ⟨rfl, rfl⟩ := h
        have : SE.den E (.op .sub k x y) = k.wrap (x.den E - y.den E) := by simp [SE.den, arS, arI, wrapF_eq]
        rw [this, fits_wrap hfit (by omega) (by omega)]
        omega
      · simp at h
    · simp at h
  | .cv k x, p, q, h => by
    simp only [SE.rng] at h
    split at h
    · rename_i a b hx
      obtain ⟨x1, x2⟩ := SE.rng_ok hf x _ _ hx
      split at h
      · rename_i hfit
        simp at h; obtain ⟨rfl, rfl⟩ := h
        have : SE.den E (.cv k x) = k.wrap (x.den E) := rfl
        rw [this, fits_wrap hfit x1 x2]
        exact ⟨x1, x2⟩
      · simp at h
    · simp at h
  | .mm true x y, p, q, h => by
    simp only [SE.rng] at h
    split at h
    · rename_i a b c d hx hy
      obtain ⟨x1, x2⟩ := SE.rng_ok hf x _ _ hx
      obtain ⟨y1, y2⟩ := SE.rng_ok hf y _ _ hy
      simp at h; obtain ⟨rfl, rfl⟩ := h
      simp only [SE.den]
      split <;> omega
    · simp at h
  | .mm false x y, p, q, h => by
    simp only [SE.rng] at h
    split at h
    · rename_i a b c d hx hy
      obtain ⟨x1, x2⟩ := SE.rng_ok hf x _ _ hx
      obtain ⟨y1, y2⟩ := SE.rng_ok hf y _ _ hy
      simp at h; obtain ⟨rfl, rfl⟩ := h
      simp only [SE.den]
      split <;> omega
    · simp at h
theorem askF_ok {fa : Fa} (hf : ∀ c b, (c, b) ∈ fa.l → c.den E = b) {c : SB} {b : Bool} : ∀ (l : List (SB × Bool)), (∀ x ∈ l, x ∈ fa.l) → askF l c = some b → c.den E = b
  | [], _, h => by simp [askF] at h
  | (s, t) :: r, hl, h => by
    simp only [askF] at h
    split at h
    · rename_i e
      simp at h; subst h
      rw [← SB.beq_eq e]
      exact hf _ _ (hl _ List.mem_cons_self)
    · exact askF_ok hf r (fun x hx => hl x (List.mem_cons_of_mem _ hx)) h
theorem askR_ok {o : BinOp} {a b c d x y : Int} {t : Bool} (h : askR o a b c d = some t) (h1 : a ≤ x) (h2 : x ≤ b) (h3 : c ≤ y) (h4 : y ≤ d) : (cmpI o x y).getD false = t := by
  cases o <;> simp only [askR] at h <;> try simp at h
  all_goals (split at h <;> try split at h)
  all_goals simp at h
  all_goals subst h
  all_goals simp_all [cmpI, iEq_eq, iLt_eq, iLe_eq]
  all_goals omega
theorem cmp_self {o : BinOp} {x : Int} {t : Bool} (h : cmpI o 0 0 = some t) : cmpI o x x = some t := by
  cases o <;> simp [cmpI, iEq_eq, iLt_eq, iLe_eq] at h ⊢ <;> exact h
theorem SB.ask_ok {fa : Fa} (hf : FaOk E fa) : ∀ (c : SB) (b : Bool), c.ask fa = some b → c.den E = b
  | .v i, b, h => askF_ok hf.l _ (fun _ h => h) h
  | .not x, b, h => by
    simp only [SB.ask, Option.map_eq_some_iff] at h
    obtain ⟨y, h1, rfl⟩ := h
    simp [SB.den, SB.ask_ok hf x y h1]
  | .and x y, b, h => by
    simp only [SB.ask] at h
    split at h
    · rename_i h1
      simp [SB.den, SB.ask_ok hf x _ h1, SB.ask_ok hf y _ h]
    · rename_i h1
      simp at h; subst h
      simp [SB.den, SB.ask_ok hf x _ h1]
    · rename_i h1 h2
      simp at h; subst h
      simp [SB.den, SB.ask_ok hf y _ h2]
    · simp at h
  | .cmp o x y, b, h => by
    simp only [SB.ask] at h
    split at h
    · rename_i e
      have e := SE.beq_eq e
      subst e
      simp [SB.den, cmp_self h]
    · split at h
      · rename_i t ht
        simp at h; subst h
        exact askF_ok hf.l _ (fun _ h => h) ht
      · split at h
        · rename_i p q s t h1 h2
          obtain ⟨a1, a2⟩ := SE.rng_ok hf x _ _ h1
          obtain ⟨a3, a4⟩ := SE.rng_ok hf y _ _ h2
          exact askR_ok h a1 a2 a3 a4
        · simp at h
theorem askE_ok {fa : Fa} (hf : ∀ c b, (c, b) ∈ fa.l → c.den E = b) {e : SE} {n : Int} : ∀ (l : List (SB × Bool)), (∀ x ∈ l, x ∈ fa.l) → askE l e = some n → e.den E = n
  | [], _, h => by simp [askE] at h
  | (c, t) :: r, hl, h => by
    unfold askE at h
    split at h
    · rename_i hh; exact absurd hh (by simp)
    · rename_i a m r' e' hh
      cases hh
      split at h
      · rename_i hb
        simp at h; subst h
        have := hf _ _ (hl _ List.mem_cons_self)
        rw [← SE.beq_eq hb]
        simpa [SB.den, cmpI, iEq_eq, SE.den] using this
      · exact askE_ok hf r (fun x hx => hl x (List.mem_cons_of_mem _ hx)) h
    · rename_i hh
      cases hh
      exact askE_ok hf r (fun x hx => hl x (List.mem_cons_of_mem _ hx)) h
def nrm (fa : Fa) (v : V) : V := nrmK fa v id
theorem nrmK_eq {σ : Type} (fa : Fa) (v : V) (k : V → σ) : nrmK fa v k = k (nrm fa v) := by
  unfold nrm nrmK
  cases v <;> try rfl
  · rename_i c
    show oc (c.ask fa) (fun b => k (.b b)) (k (.sb c)) = k (oc (c.ask fa) (fun b => .b b) (.sb c))
    cases c.ask fa <;> rfl
  · rename_i t e
    show oc (askE fa.l e) (fun n => k (.i t n)) (k (.si t e)) = k (oc (askE fa.l e) (fun n => .i t n) (.si t e))
    cases askE fa.l e <;> rfl
theorem nrm_ok {fa : Fa} (hf : FaOk E fa) (v : V) : (∀ ρ, (nrm fa v).γ E ρ = v.γ E ρ) ∧ ∀ n, v.bd n → (nrm fa v).bd n := by
  cases v <;> try exact ⟨fun _ => rfl, fun _ h => h⟩
  · rename_i c
    show (∀ ρ, (oc (c.ask fa) (fun b => V.b b) (V.sb c)).γ E ρ = (V.sb c).γ E ρ) ∧ ∀ n, (V.sb c).bd n → (oc (c.ask fa) (fun b => V.b b) (V.sb c)).bd n
    cases h : c.ask fa with
    | none => exact ⟨fun _ => rfl, fun _ h => h⟩
    | some b => exact ⟨fun ρ => by show Value.bool b = Value.bool (c.den E); rw [SB.ask_ok hf c b h], fun _ _ => trivial⟩
  · rename_i t e
    show (∀ ρ, (oc (askE fa.l e) (fun n => V.i t n) (V.si t e)).γ E ρ = (V.si t e).γ E ρ) ∧ ∀ n, (V.si t e).bd n → (oc (askE fa.l e) (fun n => V.i t n) (V.si t e)).bd n
    cases h : askE fa.l e with
    | none => exact ⟨fun _ => rfl, fun _ h => h⟩
    | some n => exact ⟨fun ρ => by show Value.int t n = Value.int t (e.den E); rw [askE_ok hf.l _ (fun _ h => h) h], fun _ _ => trivial⟩
theorem both_zero {a b : Nat} (h : both a b = 0) : a = 0 ∧ b = 0 := by
  cases a with
  | zero => exact ⟨rfl, h⟩
  | succ a => exact absurd h (by simp [both, natCase])
/-- the way that is gone -/
theorem way_ok {fa : Fa} {v : Option V} {k : Bool → Fa → Nat} {e : Nat} (h : way fa v k e = 0) (he : e ≠ 0) (hf : FaOk E fa) (ρ : Rho) :
    ∃ x b fa', v = some x ∧ x.γ E ρ = .bool b ∧ FaOk E fa' ∧ k b fa' = 0 := by
  unfold way at h
  split at h
  · rename_i x; exact ⟨_, x, fa, rfl, rfl, hf, h⟩
  · rename_i c
    split at h
    · rename_i x hx
      exact ⟨_, x, fa, rfl, by rw [V.γ, SB.ask_ok hf c x hx], hf, h⟩
    · obtain ⟨h1, h2⟩ := both_zero h
      cases hc : c.den E with
      | true => exact ⟨_, true, _, rfl, by rw [V.γ, hc], hf.cons hc, h1⟩
      | false => exact ⟨_, false, _, rfl, by rw [V.γ, hc], hf.cons hc, h2⟩
  · exact absurd h he
end Go.Ev
end
