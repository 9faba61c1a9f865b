/-
  Regions: one after another; and operations that leave all as it is.
-/
import Derived.Test.YtapeacnagpphjaaGreatEvM
import Derived.Test.YtapeacnagpphjaaGreatEvQ
set_option linter.unusedSimpArgs false
set_option linter.unusedVariables false
noncomputable section
namespace Go.Ev
open Go
variable {E : Env} {P : Program} {N : Nat}
theorem At.trans {ρ ρ1 : Rho} {h h1 : H} {w w1 : World} (hx : Ext ρ h w ρ1 h1 w1) {fr : Fr} {h' : H} {a : Act} {w' : World} (s : At E N ρ1 h1 w1 fr h' a w') : At E N ρ h w fr h' a w' := by
  obtain ⟨ρ', a1, a2, a3, a4, a5⟩ := s
  exact ⟨ρ', a1, a2, a3, a4, hx.trans a5⟩
theorem wp_mono' {o : Oper} {a : Act} {w : World} {K K' : Act → World → Prop} {QQ : Exit → Act → World → Prop} (hKK : ∀ a w, K a w → K' a w) (hw : o.wp P a w K QQ) : o.wp P a w K' QQ := by
  unfold Oper.wp Oper.upon at hw ⊢
  split at hw
  · exact hKK _ _ hw
  · exact hKK _ _ hw
  · exact hKK _ _ hw
  · refine hw.mono ?_
    intro e w' he
    split at he
    · exact hKK _ _ he
    · exact he
    · exact he
  · exact hw.mono (fun v w' he => hKK _ _ he)
  · exact hw
  · exact hw.elim
theorem cOpers_cons {Y : Ty} {all : List Oper} {o : Oper} {r : List Oper} {l : List OI} (h : cOpers Y N all (o :: r) = some l) : ∃ x l', cOper Y N all o = some x ∧ cOpers Y N all r = some l' ∧ l = x :: l' := by
  simp only [cOpers] at h
  split at h
  · rename_i a b h1 h2
    simp at h; subst h
    exact ⟨a, b, h1, h2, rfl⟩
  · simp at h
theorem opsT_run {Y : Ty} (hY : TyOk P Y) {ops : Array Oper} {c : Ctx} (hcall : CallOk E P c.call) {k : K1} : ∀ (l : List Oper) (l' : List OI) (fr : Fr) (h : H) (fa : Fa), cOpers Y N ops.toList l = some l' → FaOk E fa → opsT l' c fr h fa k = 0 →
    ∃ fr' h' fa', k fr' h' fa' = 0 ∧ FaOk E fa' ∧ ∀ ρ w a QQ, Sat E ρ h w → FrOk E ρ h.n.toNat fr (a : Act).tmps → N ≤ a.tmps.size → a.defers = [] → (∀ a' w', At E N ρ h w fr' h' a' w' → QQ .normal a' w') → wpList P ops QQ l a w
  | [], l', fr, h, fa, hl, hfa, hk => by
    simp [cOpers] at hl; subst hl
    exact ⟨fr, h, fa, hk, hfa, fun ρ w a QQ hs hf hN hd hq => hq a w ⟨ρ, hf, hN, hd, hs, hs.refl E⟩⟩
  | o :: r, l', fr, h, fa, hl, hfa, hk => by
    obtain ⟨x, l2, hx, hl2, rfl⟩ := cOpers_cons hl
    have hk : OI.go stepOp stepCall x c fr h fa (fun fr h fa => opsT l2 c fr h fa k) = 0 := hk
    obtain ⟨fr1, h1, fa1, hk1, hfa1, h2⟩ := step_run hY hx hcall hfa hk
    obtain ⟨fr2, h2', fa2, hk2, hfa2, h3⟩ := opsT_run hY hcall r l2 fr1 h1 fa1 hl2 hfa1 hk1
    refine ⟨fr2, h2', fa2, hk2, hfa2, fun ρ w a QQ hs hf hN hd hq => ?_⟩
    have next : ∀ a1 w1, At E N ρ h w fr1 h1 a1 w1 → wpList P ops QQ r a1 w1 := by
      rintro a1 w1 ⟨ρ1, f1, n1, d1, s1, x1⟩
      exact h3 ρ1 w1 a1 QQ s1 f1 n1 d1 (fun a' w' hA => hq a' w' (hA.trans x1))
    unfold wpList
    rcases h2 ρ w a QQ hs hf hN hd with ⟨hw, hwp⟩ | ⟨hw, hA⟩
    · rw [if_pos hw]
      exact .inl (wp_mono' next hwp)
    · rw [if_neg (by simp [hw])]
      exact next _ _ hA
/-- the worlds in which the things are as they were -/
def Cls (E : Env) (ρ : Rho) (h : H) (w0 : World) (w : World) : Prop := Sat E ρ h w ∧ Ext ρ h w0 ρ h w
theorem hro_eq (h : H) : hro h = ⟨h.n, h.n, h.t⟩ := by cases h; rfl
theorem cls_ro {ρ ρ' : Rho} {h h' : H} {w0 w w' : World} (hc : Cls E ρ h w0 w) (s : Sat E ρ' h' w') (x : Ext ρ (hro h) w ρ' h' w') : Cls E ρ h w0 w' := by
  rw [hro_eq] at x
  have hb : ∀ p o, h.t.get p = some o → p.toNat < h.n.toNat := fun p o hp => (hc.1.bd p o hp).1
  have hg : ∀ p o, h.t.get p = some o → h'.t.get p = some o := fun p o hp => by rw [x.old p (hb p o hp) (hb p o hp)]; exact hp
  have ha : ∀ p : Ev.P, p.toNat < h.n.toNat → ρ' p = ρ p := x.agree
  refine ⟨⟨fun p o hp => ?_, fun p q o o' hp hq l1 l2 he => ?_, hc.1.bd⟩, hc.2.trans ⟨Nat.le_refl _, rfl, fun _ _ => rfl, fun p o h1 h2 => ?_, x.os, x.tape, x.output, x.size, fun b hb2 _ => x.keep b hb2 (fun p o hp _ hlo => ?_), fun _ _ _ => rfl, fun p o _ h1 h2 => ⟨o, h1, h2⟩⟩⟩
  · have h1 := s.obj p o (hg p o hp)
    rw [ha p (hb p o hp)] at h1
    exact O.Is_agree E (fun i hi => (ha i hi).symm) (hc.1.bd p o hp).2 h1
  · refine s.inj p q o o' (hg p o hp) (hg q o' hq) l1 l2 ?_
    rw [ha p (hb p o hp), ha q (hb q o' hq)]; exact he
  · have := hb p o h2; omega
  · have := hb p o hp
    simp only at hlo
    omega
theorem bdB_ok {n : Ev.P} : (∀ v : V, v.bdB n = true → v.bd n.toNat) := by
  intro v
  exact V.rec (motive_1 := fun v => v.bdB n = true → v.bd n.toNat) (motive_2 := fun l => bdLB n l = true → bdL n.toNat l)
    (fun _ _ => trivial) (fun _ _ _ => trivial) (fun _ _ => trivial) (fun _ _ _ => trivial)
    (fun id off h => by simpa [V.bdB, V.bd, pLt] using h) (fun _ => trivial)
    (fun id off l c h => by simpa [V.bdB, V.bd, pLt] using h) (fun id m h => by simpa [V.bdB, V.bd, pLt] using h) (fun _ => trivial)
    (fun F p l h1 h2 h => by simp only [V.bdB, Bool.and_eq_true] at h; exact ⟨h1 h.1, h2 h.2⟩) (fun _ => trivial)
    (fun l h1 h => h1 (by simpa [V.bdB] using h)) (fun l h1 h => h1 (by simpa [V.bdB] using h))
    (fun _ => trivial) (fun v r h1 h2 h => by
      simp only [bdLB] at h
      split at h
      · rename_i hv; exact ⟨h1 hv, h2 h⟩
      · simp at h) v
theorem bdLB_ok {n : Ev.P} (l : List V) (h : bdLB n l = true) : bdL n.toNat l := by
  induction l with
  | nil => trivial
  | cons v r ih =>
    simp only [bdLB] at h
    split at h
    · rename_i hv; exact ⟨bdB_ok v hv, ih h⟩
    · simp at h
theorem hc_eq {σ : Type} (h : H) (f : Ev.P → Ev.P → PT O → σ) : hc h f = f h.n h.lo h.t := by cases h; rfl
/-- one of a region that leaves all as it is -/
def QOne (P : Program) (ops : Array Oper) (C : World → Prop) (o : Oper) (a : Act) (K : Act → Prop) : Prop :=
  (Region.wanted o (yielded ops a.tmps) = true ∧ ∃ v, (∀ w, C w → o.quietAt P a C w v) ∧ K (a.put o.dst v)) ∨ (Region.wanted o (yielded ops a.tmps) = false ∧ K (a.put o.dst undef))
theorem qstep_run {Y : Ty} (hY : TyOk P Y) {ops : Array Oper} {o : Oper} {x : OI} (hx : cOper Y N ops.toList o = some x) {c : Ctx} (hcall : CallOk E P c.call) {fr : Fr} {h : H} {fa : Fa} (hfa : FaOk E fa) {k : K1}
    (hk : OI.go qOp qCall x c fr h fa k = 0) :
    ∃ fr' fa', k fr' h fa' = 0 ∧ FaOk E fa' ∧ ∀ ρ w0 n a, Sat E ρ h w0 → h.n.toNat ≤ n → FrOk E ρ n fr (a : Act).tmps → N ≤ a.tmps.size → a.defers = [] →
      QOne P ops (Cls E ρ h w0) o a (fun a' => FrOk E ρ n fr' a'.tmps ∧ N ≤ a'.tmps.size ∧ a'.defers = []) := by
  obtain ⟨d, g, hd, hg, hx⟩ := cOper_ok hx
  have skip : ∀ fa', putF d (.tup []) fr (fun fr => k fr h fa') = 0 → ∃ fr', k fr' h fa' = 0 ∧ ∀ ρ n (a : Act), FrOk E ρ n fr a.tmps → N ≤ a.tmps.size → a.defers = [] → (fun a' : Act => FrOk E ρ n fr' a'.tmps ∧ N ≤ a'.tmps.size ∧ a'.defers = []) (a.put o.dst undef) := by
    intro fa' hk
    obtain ⟨fr', h1, h2⟩ := putF_ok hd hk
    refine ⟨fr', h1, fun ρ n a hf hN hdf => ?_⟩
    obtain ⟨g1, g2, g3⟩ := h2 E ρ n a hf hN (by trivial)
    exact ⟨g1, g2, g3.trans hdf⟩
  rcases hx with ⟨i, hi, rfl⟩ | ⟨cl, f0, f, l, hop, hcal, hf0, hl, rfl⟩
  · have hk : qOp d g i c fr h fa k = 0 := hk
    rcases guard_ok hg hfa hk with ⟨fa', hfa', hk, hw⟩ | ⟨fa', hfa', hk, hw⟩
    · obtain ⟨hst, hk⟩ := bc_ok hk (err_ne _ _)
      obtain ⟨v, h', hk, hrun⟩ := still_strong hY hi hst hk (err_ne _ _)
      obtain ⟨fr', h1, h2⟩ := putF'_ok hfa' hd hk
      refine ⟨fr', fa', h1, hfa', fun ρ w0 n a hs hn hf hN hdf => .inl ⟨hw ρ _ a hf, v.γ E ρ, fun w hw => ?_, ?_⟩⟩
      · unfold Oper.quietAt
        rw [(hrun E ρ n a w hn hf hw.1).1]
        exact ⟨rfl, rfl⟩
      · obtain ⟨g1, g2, g3⟩ := h2 ρ n a hf hN (hrun E ρ n a w0 hn hf hs).2
        exact ⟨g1, g2, g3.trans hdf⟩
    · obtain ⟨fr', h1, h2⟩ := skip fa' hk
      exact ⟨fr', fa', h1, hfa', fun ρ w0 n a hs hn hf hN hdf => .inr ⟨hw ρ _ a hf, h2 ρ n a hf hN hdf⟩⟩
  · have hk : qCall d g f l c fr h fa k = 0 := hk
    rcases guard_ok hg hfa hk with ⟨fa', hfa', hk, hw⟩ | ⟨fa', hfa', hk, hw⟩
    · obtain ⟨F, vl, hk, hrun⟩ := callD_of (P := P) hop hcal hf0 hl hk
      obtain ⟨hbd, hk⟩ := bc_ok (show bc (hc (hro h) (fun n _ _ => bdLB n vl)) _ _ = 0 from hk) (by simp)
      rw [hc_eq, hro_eq] at hbd
      have hbd := bdLB_ok vl hbd
      obtain ⟨hca, v, h', fa2, hk, hfa2, hdo⟩ := hcall _ _ _ _ _ hk hfa'
      obtain ⟨hvb, hk⟩ := bc_ok hk (err_ne _ _)
      rw [hc_eq] at hvb
      have hvb := bdB_ok v hvb
      obtain ⟨fr', h1, h2⟩ := putF_ok hd hk
      refine ⟨fr', fa2, h1, hfa2, fun ρ w0 n a hs hn hf hN hdf => .inl ⟨hw ρ _ a hf, v.γ E ρ, fun w hw => ?_, ?_⟩⟩
      · unfold Oper.quietAt
        rw [(hrun E ρ n a hf).2 w, hca]
        have hsr : Sat E ρ (hro h) w := by rw [hro_eq]; exact ⟨hw.1.obj, hw.1.inj, hw.1.bd⟩
        refine ⟨rfl, (hdo ρ w (by rw [hro_eq]; exact hbd) hsr).mono ?_⟩
        rintro e w' ⟨ρ', rfl, hs', hx', hb⟩
        have hag : ∀ p : Ev.P, p.toNat < h.n.toNat → ρ' p = ρ p := by
          intro p hp; exact hx'.agree p (by rw [hro_eq]; exact hp)
        refine ⟨by rw [γ_agree E hag v hvb], cls_ro hw hs' hx'⟩
      · obtain ⟨g1, g2, g3⟩ := h2 E ρ n a hf hN (bd_mono hn v hvb)
        exact ⟨g1, g2, g3.trans hdf⟩
    · obtain ⟨fr', h1, h2⟩ := skip fa' hk
      exact ⟨fr', fa', h1, hfa', fun ρ w0 n a hs hn hf hN hdf => .inr ⟨hw ρ _ a hf, h2 ρ n a hf hN hdf⟩⟩
theorem qopsT_run {Y : Ty} (hY : TyOk P Y) {ops : Array Oper} {c : Ctx} (hcall : CallOk E P c.call) {k : K1} {h : H} : ∀ (l : List Oper) (l' : List OI) (fr : Fr) (fa : Fa), cOpers Y N ops.toList l = some l' → FaOk E fa → qopsT l' c fr h fa k = 0 →
    ∃ fr' fa', k fr' h fa' = 0 ∧ FaOk E fa' ∧ ∀ ρ w0 a (K : Act → Prop), Sat E ρ h w0 → FrOk E ρ h.n.toNat fr (a : Act).tmps → N ≤ a.tmps.size → a.defers = [] →
      (∀ a', FrOk E ρ h.n.toNat fr' (a' : Act).tmps → N ≤ a'.tmps.size → a'.defers = [] → K a') → wpQuiet P ops (Cls E ρ h w0) K l a
  | [], l', fr, fa, hl, hfa, hk => by
    simp [cOpers] at hl; subst hl
    exact ⟨fr, fa, hk, hfa, fun ρ w a K hs hf hN hd hq => hq a hf hN hd⟩
  | o :: r, l', fr, fa, hl, hfa, hk => by
    obtain ⟨x, l2, hx, hl2, rfl⟩ := cOpers_cons hl
    have hk : OI.go qOp qCall x c fr h fa (fun fr h fa => qopsT l2 c fr h fa k) = 0 := hk
    obtain ⟨fr1, fa1, hk1, hfa1, h2⟩ := qstep_run hY hx hcall hfa hk
    obtain ⟨fr2, fa2, hk2, hfa2, h3⟩ := qopsT_run hY hcall r l2 fr1 fa1 hl2 hfa1 hk1
    refine ⟨fr2, fa2, hk2, hfa2, fun ρ w0 a K hs hf hN hd hq => ?_⟩
    unfold wpQuiet
    rcases h2 ρ w0 _ a hs (Nat.le_refl _) hf hN hd with ⟨hw, v, hv, g1, g2, g3⟩ | ⟨hw, g1, g2, g3⟩
    · rw [if_pos hw]
      exact ⟨v, hv, h3 ρ w0 _ K hs g1 g2 g3 hq⟩
    · rw [if_neg (by simp [hw])]
      exact h3 ρ w0 _ K hs g1 g2 g3 hq
end Go.Ev
end
