/-
  Values compared; all binary operations.
-/
import Derived.Test.YtapeacnagpphjaaGreatEvE
set_option linter.unusedSimpArgs false
set_option linter.unusedVariables false
noncomputable section
namespace Go.Ev
open Go
variable {E : Env} {P : Program} {w : World}

def combB (E : Env) (c : Option SB) (b : Bool) : Bool := b && (match c with | none => true | some c => c.den E)
/-- what is said of comparing is so -/
def EqSpec (P : Program) (Y : Ty) : Prop := ∀ t l, Y.eq t = some l → P.eqGuardType P.depth t = false ∧ ∀ (E : Env) (ρ : Rho) (w : World) xs ys c b, eqL l xs ys = some (c, b) →
  (Op.equal t (.agg (γL E ρ xs).toArray) (.agg (γL E ρ ys).toArray)).run P w = .ok (combB E c b) w
structure TyOk (P : Program) (Y : Ty) : Prop where
  ti : TiOk P Y.ti
  eq : EqSpec P Y

theorem scal_bool {d : TypeDesc} (h : SK.bool = scalOf d) : d = .bool := by cases d <;> simp_all [scalOf]
theorem scal_int {d : TypeDesc} {k : IntKind} (h : SK.int k = scalOf d) : d = .int k := by cases d <;> simp_all [scalOf]
theorem scal_ptr {d : TypeDesc} (h : SK.ptr = scalOf d) : ∃ e, d = .pointer e := by cases d <;> simp_all [scalOf]
theorem scal_func {d : TypeDesc} (h : SK.func = scalOf d) : ∃ a b c, d = .func a b c := by cases d <;> simp_all [scalOf]

theorem eq_run {t : TypeId} {a b : Value} {r : Bool} (h : (Op.equal t a b).run P w = .ok r w) (op : BinOp) (hi : ∀ k n, a ≠ .int k n) (hf : ∀ k n, a ≠ .float k n) (hx : ∀ k n m, a ≠ .complex k n m) (hs : ∀ n, a ≠ .string n) :
    (op = .eql → (binOp op t a b).run P w = .ok (.bool r) w) ∧ (op = .neq → (binOp op t a b).run P w = .ok (.bool (!r)) w) := by
  constructor
  · rintro rfl
    cases a <;> simp [binOp, h] at hi hf hx hs ⊢
  · rintro rfl
    cases a <;> simp [binOp, h] at hi hf hx hs ⊢
theorem eqO_run {o : BinOp} {c : Option SB} {b : Bool} {v : V} (h : eqO o (some (c, b)) = some v) {t : TypeId} {x y : Value} (hr : (Op.equal t x y).run P w = .ok (combB E c b) w)
    (hi : ∀ k n, x ≠ .int k n) (hf : ∀ k n, x ≠ .float k n) (hx : ∀ k n m, x ≠ .complex k n m) (hs : ∀ n, x ≠ .string n) (ρ : Rho) : (binOp o t x y).run P w = .ok (v.γ E ρ) w ∧ v.bd 0 := by
  obtain ⟨e1, e2⟩ := eq_run hr o hi hf hx hs
  cases o <;> cases c <;> cases b <;> simp [eqO] at h <;> subst h
  all_goals first
    | exact ⟨by rw [e1 rfl]; simp [V.γ, combB], trivial⟩
    | exact ⟨by rw [e2 rfl]; simp [V.γ, combB, SB.den], trivial⟩
theorem equal_step {t : TypeId} {a b : Value} {r : Result Bool} (h : ∀ d, (Op.equalIn (d + 1) t a b).run P w = r) : (Op.equal t a b).run P w = r := h 9999
theorem eqC_bool {x y : V} {c : Option SB} {b : Bool} (h : eqC .bool x y = some (c, b)) (ρ : Rho) : ∃ p q, x.γ E ρ = .bool p ∧ y.γ E ρ = .bool q ∧ combB E c b = (p == q) := by
  unfold eqC at h
  simp only at h
  split at h
  · rename_i a b'
    simp at h
    obtain ⟨rfl, rfl⟩ := h
    refine ⟨a, b', rfl, rfl, ?_⟩
    cases a <;> cases b' <;> rfl
  · simp at h; obtain ⟨rfl, rfl⟩ := h; exact ⟨_, true, rfl, rfl, by simp [combB]⟩
  · simp at h; obtain ⟨rfl, rfl⟩ := h; exact ⟨true, _, rfl, rfl, by simp [combB]⟩
  · simp at h; obtain ⟨rfl, rfl⟩ := h; exact ⟨_, false, rfl, rfl, by simp [combB, SB.den]⟩
  · simp at h; obtain ⟨rfl, rfl⟩ := h; exact ⟨false, _, rfl, rfl, by simp [combB, SB.den]⟩
  · simp at h
theorem bEqQ_run {Y : Ty} (hY : TyOk P Y) {t : TypeId} {q : QK} (hq : qkOf Y t = some q) {o : BinOp} (ho : isCmp o = true) {x y v : V} (h : bEqQ o q x y = some v) (ρ : Rho) : (binOp o t (x.γ E ρ) (y.γ E ρ)).run P w = .ok (v.γ E ρ) w ∧ v.bd 0 := by
  unfold qkOf at hq
  split at hq
  · simp at hq; subst hq
    exact bCmS_run ho h ρ
  · rename_i ht
    simp at hq; subst hq
    obtain ⟨d, hu, _, hk⟩ := ti_scal hY.ti ht
    have hu : P.underlying t = some .bool := by rw [hu, scal_bool hk]
    simp only [bEqQ] at h
    cases hc : eqC .bool x y with
    | none => rw [hc] at h; cases o <;> simp [eqO] at h
    | some p =>
      obtain ⟨c, b⟩ := p
      rw [hc] at h
      obtain ⟨p, q, e1, e2, e3⟩ := eqC_bool (E := E) hc ρ
      rw [e1, e2]
      exact eqO_run h (equal_step fun d => by rw [e3]; simp [Op.equalIn, run_underlying hu]) (by simp) (by simp) (by simp) (by simp) ρ
  · rename_i ht
    simp at hq; subst hq
    obtain ⟨d, hu, _, hk⟩ := ti_scal hY.ti ht
    obtain ⟨e, rfl⟩ := scal_ptr hk
    simp only [bEqQ] at h
    split at h
    · exact eqO_run (E := E) h (equal_step fun d => by simp [V.γ, Op.equalIn, run_underlying hu, combB]) (by simp [V.γ]) (by simp [V.γ]) (by simp [V.γ]) (by simp [V.γ]) ρ
    · exact eqO_run (E := E) h (equal_step fun d => by simp [V.γ, Op.equalIn, run_underlying hu, combB]) (by simp [V.γ]) (by simp [V.γ]) (by simp [V.γ]) (by simp [V.γ]) ρ
    · exact eqO_run (E := E) h (equal_step fun d => by simp [V.γ, Op.equalIn, run_underlying hu, combB]) (by simp [V.γ]) (by simp [V.γ]) (by simp [V.γ]) (by simp [V.γ]) ρ
    · simp at h
  · rename_i ht
    simp at hq; subst hq
    obtain ⟨d, hu, _, hk⟩ := ti_scal hY.ti ht
    obtain ⟨a1, b1, c1, rfl⟩ := scal_func hk
    simp only [bEqQ] at h
    split at h
    · exact eqO_run (E := E) h (equal_step fun d => by simp [V.γ, Op.equalIn, run_underlying hu, combB]) (by simp [V.γ]) (by simp [V.γ]) (by simp [V.γ]) (by simp [V.γ]) ρ
    · exact eqO_run (E := E) h (equal_step fun d => by simp [V.γ, Op.equalIn, run_underlying hu, combB]) (by simp [V.γ]) (by simp [V.γ]) (by simp [V.γ]) (by simp [V.γ]) ρ
    · exact eqO_run (E := E) h (equal_step fun d => by simp [V.γ, Op.equalIn, run_underlying hu, combB]) (by simp [V.γ]) (by simp [V.γ]) (by simp [V.γ]) (by simp [V.γ]) ρ
    · simp at h
  · rename_i ht
    simp at hq; subst hq
    obtain ⟨hu, _⟩ := ti_slc hY.ti ht
    simp only [bEqQ] at h
    split at h
    · exact eqO_run (E := E) h (equal_step fun d => by simp [V.γ, Op.equalIn, run_underlying hu, combB]) (by simp [V.γ]) (by simp [V.γ]) (by simp [V.γ]) (by simp [V.γ]) ρ
    · exact eqO_run (E := E) h (equal_step fun d => by simp [V.γ, Op.equalIn, run_underlying hu, combB]) (by simp [V.γ]) (by simp [V.γ]) (by simp [V.γ]) (by simp [V.γ]) ρ
    · exact eqO_run (E := E) h (equal_step fun d => by simp [V.γ, Op.equalIn, run_underlying hu, combB]) (by simp [V.γ]) (by simp [V.γ]) (by simp [V.γ]) (by simp [V.γ]) ρ
    · exact eqO_run (E := E) h (equal_step fun d => by simp [V.γ, Op.equalIn, run_underlying hu, combB]) (by simp [V.γ]) (by simp [V.γ]) (by simp [V.γ]) (by simp [V.γ]) ρ
    · exact eqO_run (E := E) h (equal_step fun d => by simp [V.γ, Op.equalIn, run_underlying hu, combB]) (by simp [V.γ]) (by simp [V.γ]) (by simp [V.γ]) (by simp [V.γ]) ρ
    · simp at h
  all_goals first
    | (simp at hq; done)
    | (split at hq
       · rename_i l hl
         simp at hq; subst hq
         simp only [bEqQ] at h
         split at h
         · rename_i a b
           cases hc : eqL l a b with
           | none => rw [hc] at h; cases o <;> simp [eqO] at h
           | some p =>
             obtain ⟨c, bb⟩ := p
             rw [hc] at h
             exact eqO_run (E := E) h ((hY.eq t l hl).2 E ρ w a b c bb hc) (by simp [V.γ]) (by simp [V.γ]) (by simp [V.γ]) (by simp [V.γ]) ρ
         · simp at h
       · simp at hq)
theorem bEq_run {Y : Ty} (hY : TyOk P Y) {t : TypeId} {q : QK} (hq : qkOf Y t = some q) {o : BinOp} (ho : isCmp o = true) {f : Bool → Bool} (hf : ∀ a b, cmpI o a b = some (f (iEq a b))) {x y v : V} (h : bEq o f q x y = some v) (ρ : Rho) :
    (binOp o t (x.γ E ρ) (y.γ E ρ)).run P w = .ok (v.γ E ρ) w ∧ v.bd 0 := by
  unfold bEq at h
  rcases vInt_cases x (fun k a => vInt y (fun k' b => bc (kEq k k') (some (.b (f (iEq a b)))) none) (bEqQ o q x y)) (bEqQ o q x y) with ⟨k, a, rfl, e⟩ | e
  · rw [e] at h
    rcases vInt_cases y (fun k' b => bc (kEq k k') (some (V.b (f (iEq a b)))) none) (bEqQ o q (.i k a) y) with ⟨k', b, rfl, e⟩ | e
    · rw [e, bc_eq] at h
      split at h
      · rename_i hk
        obtain rfl := kEq_eq hk
        simp at h; subst h
        simp only [V.γ]
        rw [cmOk ho t, hf]
        exact ⟨rfl, trivial⟩
      · simp at h
    · rw [e] at h; exact bEqQ_run hY hq ho h ρ
  · rw [e] at h; exact bEqQ_run hY hq ho h ρ
theorem binV_run {Y : Ty} (hY : TyOk P Y) {t : TypeId} {q : QK} (hq : qkOf Y t = some q) {o : BinOp} {x y v : V} (h : binV o q x y = some v) (ρ : Rho) : (binOp o t (x.γ E ρ) (y.γ E ρ)).run P w = .ok (v.γ E ρ) w ∧ v.bd 0 := by
  cases o
  · exact bAr_run (q := q) (arOk_add t) (fun _ _ _ => rfl) h ρ
  · exact bAr_run (q := q) (arOk_sub t) (fun _ _ _ => rfl) h ρ
  · exact bAr_run (q := q) (arOk_mul t) (fun _ _ _ => rfl) h ρ
  · exact bDv_run (q := q) (arOk_quo t) (fun _ _ _ => rfl) h ρ
  · exact bDv_run (q := q) (arOk_rem t) (fun _ _ _ => rfl) h ρ
  · exact bAr_run (q := q) (arOk_and t) (fun _ _ _ => rfl) h ρ
  · exact bAr_run (q := q) (arOk_or t) (fun _ _ _ => rfl) h ρ
  · exact bAr_run (q := q) (arOk_xor t) (fun _ _ _ => rfl) h ρ
  · exact bSh_run (q := q) (.inl rfl) (arOk_shl t) (fun k a b => by rw [fShl_eq]; simp [arS, arI, dvI, shI, wrapF_eq]) h ρ
  · exact bSh_run (q := q) (.inr rfl) (arOk_shr t) (fun k a b => by rw [fShr_eq]; simp [arS, arI, dvI, shI, wrapF_eq]) h ρ
  · exact bAr_run (q := q) (arOk_andNot t) (fun _ _ _ => rfl) h ρ
  · exact bEq_run hY hq rfl (fun _ _ => rfl) h ρ
  · exact bEq_run hY hq rfl (fun _ _ => rfl) h ρ
  · exact bCm_run (q := q) rfl (fun _ _ => rfl) h ρ
  · exact bCm_run (q := q) rfl (fun _ _ => rfl) h ρ
  · exact bCm_run (q := q) rfl (fun _ _ => rfl) h ρ
  · exact bCm_run (q := q) rfl (fun _ _ => rfl) h ρ
end Go.Ev
end
