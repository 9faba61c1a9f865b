/-
  Comparing structs and arrays: what is said of it is so.
-/
import Derived.Test.YtapeacnagpphjaaGreatEvS
import Derived.Laws.StructEq
import Derived.ChangeKeysEq
set_option linter.unusedSimpArgs false
set_option linter.unusedVariables false
noncomputable section
namespace Go.Ev
open Go
variable {E : Env} {P : Program}
theorem combB_and (c c' : Option SB) (b b' : Bool) : combB E (andO c c') (match b, b' with | true, true => true | _, _ => false) = (combB E c b && combB E c' b') := by
  cases c <;> cases c' <;> cases b <;> cases b' <;> simp [combB, andO, SB.den]
theorem combB_and' (c c' : Option SB) (b b' : Bool) : combB E (andO c c') (b && b') = (combB E c b && combB E c' b') := by
  cases c <;> cases c' <;> cases b <;> cases b' <;> simp [combB, andO, SB.den]
theorem eqL_cons {e : EK} {es : List EK} {xs ys : List V} {c : Option SB} {b : Bool} (h : eqL (e :: es) xs ys = some (c, b)) :
    ∃ x xs' y ys' c1 b1 c2 b2, xs = x :: xs' ∧ ys = y :: ys' ∧ eqC e x y = some (c1, b1) ∧ eqL es xs' ys' = some (c2, b2) ∧ combB E c b = (combB E c1 b1 && combB E c2 b2) := by
  cases xs with
  | nil => simp [eqL] at h
  | cons x xs =>
    cases ys with
    | nil => simp [eqL] at h
    | cons y ys =>
      simp only [eqL] at h
      split at h
      · rename_i c1 b1 c2 b2 h1 h2
        simp only [Option.some.injEq, Prod.mk.injEq] at h
        obtain ⟨rfl, rfl⟩ := h
        exact ⟨x, xs, y, ys, c1, b1, c2, b2, rfl, rfl, h1, h2, combB_and _ _ _ _⟩
      · simp at h
theorem eqL_nil {xs ys : List V} {c : Option SB} {b : Bool} (h : eqL [] xs ys = some (c, b)) : xs = [] ∧ ys = [] ∧ combB E c b = true := by
  cases xs <;> cases ys <;> simp [eqL] at h
  obtain ⟨rfl, rfl⟩ := h
  exact ⟨rfl, rfl, rfl⟩
theorem eqL_split : ∀ (l m : List EK) {xs ys : List V} {c : Option SB} {b : Bool}, eqL (l ++ m) xs ys = some (c, b) →
    ∃ xs1 xs2 ys1 ys2 c1 b1 c2 b2, xs = xs1 ++ xs2 ∧ ys = ys1 ++ ys2 ∧ xs1.length = l.length ∧ ys1.length = l.length ∧ eqL l xs1 ys1 = some (c1, b1) ∧ eqL m xs2 ys2 = some (c2, b2) ∧ combB E c b = (combB E c1 b1 && combB E c2 b2)
  | [], m, xs, ys, c, b, h => ⟨[], xs, [], ys, none, true, c, b, rfl, rfl, rfl, rfl, rfl, h, by simp [combB]⟩
  | e :: l, m, xs, ys, c, b, h => by
    rw [List.cons_append] at h
    cases xs with
    | nil => simp [eqL] at h
    | cons x xs =>
      cases ys with
      | nil => simp [eqL] at h
      | cons y ys =>
        simp only [eqL] at h
        split at h
        · rename_i c1 b1 c2 b2 h1 h2
          simp only [Option.some.injEq, Prod.mk.injEq] at h
          obtain ⟨rfl, rfl⟩ := h
          obtain ⟨xs1, xs2, ys1, ys2, d1, e1, d2, e2, rfl, rfl, q1, q2, q3, q4, q5⟩ := eqL_split l m h2
          refine ⟨x :: xs1, xs2, y :: ys1, ys2, andO c1 d1, b1 && e1, d2, e2, rfl, rfl, by simp [q1], by simp [q2], ?_, q4, ?_⟩
          · simp only [eqL, h1, q3]; cases b1 <;> cases e1 <;> rfl
          · refine (combB_and _ _ _ _).trans ?_
            rw [combB_and', q5, Bool.and_assoc]
        · simp at h
theorem takeA_app {α : Type} (post : List α) : ∀ xs : List α, takeA xs.length (xs ++ post) = some xs
  | [] => by cases post <;> rfl
  | x :: xs => by
    show oc (takeA xs.length (xs ++ post)) (fun l => some (x :: l)) none = _
    rw [takeA_app post xs]; rfl
/-- the value of a type, of its cells -/
def wrapV (P : Program) (t : Nat) (xs : List V) : V := if aggP P t then .agg xs else xs.headD (.b true)
theorem part_wrap {t : Nat} {pre xs post : List V} {off : Nat} (h1 : pre.length = off) (h2 : xs.length = sizeP P t) (h3 : aggP P t = false → xs.length = 1) : part (pre ++ (xs ++ post)) off (sizeP P t) (aggP P t) = some (wrapV P t xs) := by
  unfold part wrapV
  cases hg : aggP P t with
  | true =>
    have hd : dropA off (pre ++ (xs ++ post)) = xs ++ post := by rw [dropA_eq, ← h1, List.drop_left]
    rw [hd, ← h2]
    simp only [if_true]
    rw [takeA_app]; rfl
  | false =>
    simp only [Bool.false_eq_true, if_false]
    match xs, h3 hg with
    | [x], _ => rw [nth_eq, List.getElem?_append_right (by omega)]; simp [h1]
theorem aggP_of {t : Nat} {d : TypeDesc} (h : P.underlying t = some d) : aggP P t = isAggD d := by simp [aggP, h]
theorem eqC_int {k : IntKind} {x y : V} {c : Option SB} {b : Bool} (h : eqC (.int k) x y = some (c, b)) (ρ : Rho) : ∃ p q, x.γ E ρ = .int k p ∧ y.γ E ρ = .int k q ∧ combB E c b = (p == q) := by
  simp only [eqC] at h
  split at h
  · rename_i k1 a k2 b'
    split at h
    · rename_i hk
      simp only [Bool.and_eq_true] at hk
      obtain rfl := kEq_eq hk.1
      obtain rfl := kEq_eq hk.2
      simp at h
      obtain ⟨rfl, rfl⟩ := h
      refine ⟨a, b', rfl, rfl, ?_⟩
      simp [combB, iEq_eq]
      rfl
    · simp at h
  · split at h
    · rename_i k1 a k2 b' h1 h2
      split at h
      · rename_i hk
        simp only [Bool.and_eq_true] at hk
        obtain rfl := kEq_eq hk.1
        obtain rfl := kEq_eq hk.2
        simp at h
        obtain ⟨rfl, rfl⟩ := h
        refine ⟨_, _, toE_γ h1 ρ, toE_γ h2 ρ, ?_⟩
        simp [combB, SB.den, cmpI, iEq_eq]
        rfl
      · simp at h
    · simp at h
mutual
theorem eqOf_run : ∀ (d : Nat) (t : Nat) (l : List EK), eqOf P d t = some l → ∀ (D : Nat) (ρ : Rho) (w : World) (xs ys : List V) (c : Option SB) (b : Bool), d ≤ D → eqL l xs ys = some (c, b) →
    (Op.equalIn D t ((wrapV P t xs).γ E ρ) ((wrapV P t ys).γ E ρ)).run P w = .ok (combB E c b) w ∧ (aggP P t = false → xs.length = 1 ∧ ys.length = 1)
  | 0, t, l, h, _, _, _, _, _, _, _, _, _ => by simp [eqOf] at h
  | d + 1, t, l, h, D, ρ, w, xs, ys, c, b, hD, he => by
    obtain ⟨D, rfl⟩ : ∃ D', D = D' + 1 := ⟨D - 1, by omega⟩
    simp only [eqOf] at h
    split at h
    · rename_i hu
      simp at h; subst h
      obtain ⟨x, xs', y, ys', c1, b1, c2, b2, rfl, rfl, h1, h2, h3⟩ := eqL_cons (E := E) he
      obtain ⟨rfl, rfl, h4⟩ := eqL_nil (E := E) h2
      obtain ⟨p, q, e1, e2, e3⟩ := eqC_bool (E := E) h1 ρ
      have hg : aggP P t = false := by rw [aggP_of hu]; rfl
      refine ⟨?_, fun _ => ⟨rfl, rfl⟩⟩
      simp only [wrapV, hg, Bool.false_eq_true, if_false, List.headD_cons, e1, e2]
      rw [run_equalIn_bool' w D t p q hu, h3, e3, h4, Bool.and_true]
    · rename_i k hu
      simp at h; subst h
      obtain ⟨x, xs', y, ys', c1, b1, c2, b2, rfl, rfl, h1, h2, h3⟩ := eqL_cons (E := E) he
      obtain ⟨rfl, rfl, h4⟩ := eqL_nil (E := E) h2
      obtain ⟨p, q, e1, e2, e3⟩ := eqC_int (E := E) h1 ρ
      have hg : aggP P t = false := by rw [aggP_of hu]; rfl
      refine ⟨?_, fun _ => ⟨rfl, rfl⟩⟩
      simp only [wrapV, hg, Bool.false_eq_true, if_false, List.headD_cons, e1, e2]
      rw [run_equalIn_int w D t k k p q hu, h3, e3, h4, Bool.and_true]
    · rename_i fl hu
      split at h
      · simp at h
      · rename_i hst
        have hg : aggP P t = true := by rw [aggP_of hu]; rfl
        refine ⟨?_, fun hf => by rw [hg] at hf; simp at hf⟩
        have hfl : P.fieldsOf t = fl := by simp [Program.fieldsOf, hu]
        simp only [wrapV, hg, if_true, V.γ]
        rw [run_equalIn_struct w D t _ _ (by rw [hfl]; exact hu) (by simpa using hst), hfl]
        exact eqFs_run d 0 fl.toList l h D ρ w [] [] xs ys c b (by omega) rfl rfl he
    · rename_i n e hu
      split at h
      · rename_i l1 h1
        split at h
        · rename_i hc
          simp only [Bool.and_eq_true, Nat.beq_eq, len_eq] at hc
          simp at h; subst h
          have hg : aggP P t = true := by rw [aggP_of hu]; rfl
          refine ⟨?_, fun hf => by rw [hg] at hf; simp at hf⟩
          obtain ⟨i, hi, his⟩ := isTy_info hc.2
          have hco : P.cellsOf e = sizeP P e := by simp [Program.cellsOf, hi, his]
          simp only [wrapV, hg, if_true, V.γ]
          rw [run_equalIn_array w D _ _ hu hi, List.range_eq_range', hco]
          have key : ∀ (n : Nat) (pre1 pre2 xs ys : List V) (j : Nat) (c : Option SB) (b : Bool) (w : World), pre1.length = j * sizeP P e → pre2.length = j * sizeP P e → eqL (rep n l1) xs ys = some (c, b) →
              (Op.eqItems D e (sizeP P e) (γL E ρ (pre1 ++ xs)).toArray (γL E ρ (pre2 ++ ys)).toArray (List.range' j n)).run P w = .ok (combB E c b) w := by
            intro n
            induction n with
            | zero =>
              intro pre1 pre2 xs ys j c b w _ _ he
              obtain ⟨rfl, rfl, h4⟩ := eqL_nil (E := E) (show eqL [] xs ys = _ from he)
              rw [h4]; simp [Op.eqItems, List.range']
            | succ n ih =>
              intro pre1 pre2 xs ys j c b w hp1 hp2 he
              obtain ⟨xs1, xs2, ys1, ys2, c1, b1, c2, b2, rfl, rfl, q1, q2, q3, q4, q5⟩ := eqL_split (E := E) l1 (rep n l1) (show eqL (l1 ++ rep n l1) xs ys = _ from he)
              obtain ⟨r1, r2⟩ := eqOf_run d e l1 h1 D ρ w xs1 ys1 c1 b1 (by omega) q3
              obtain ⟨p1, _⟩ := part_run (E := E) (w := w) hc.2 (ρ := ρ) (part_wrap (pre := pre1) (xs := xs1) (post := xs2) hp1 (by omega) (fun hf => (r2 hf).1))
              obtain ⟨p2, _⟩ := part_run (E := E) (w := w) hc.2 (ρ := ρ) (part_wrap (pre := pre2) (xs := ys1) (post := ys2) hp2 (by omega) (fun hf => (r2 hf).2))
              rw [List.range'_succ]
              simp only [Op.eqItems, Sem.run_bind, p1, p2, r1, Result.andThen_ok]
              cases hb : combB E c1 b1 with
              | false => simp [q5, hb]
              | true =>
                have := ih (pre1 ++ xs1) (pre2 ++ ys1) xs2 ys2 (j + 1) c2 b2 w (by rw [List.length_append, hp1, Nat.add_mul]; omega) (by rw [List.length_append, hp2, Nat.add_mul]; omega) q4
                simp only [List.append_assoc] at this
                simp [q5, hb, this]
          exact key n [] [] xs ys 0 c b w (by simp) (by simp) he
        · simp at h
      · simp at h
    · simp at h
theorem eqFs_run : ∀ (d : Nat) (off : Nat) (fl : List Field) (l : List EK), eqFs P d off fl = some l → ∀ (D : Nat) (ρ : Rho) (w : World) (pre1 pre2 xs ys : List V) (c : Option SB) (b : Bool), d ≤ D → pre1.length = off → pre2.length = off → eqL l xs ys = some (c, b) →
    (Op.eqFields D (γL E ρ (pre1 ++ xs)).toArray (γL E ρ (pre2 ++ ys)).toArray fl).run P w = .ok (combB E c b) w
  | 0, off, fl, l, h, _, _, _, _, _, _, _, _, _, _, _, _, _ => by simp [eqFs] at h
  | d + 1, off, [], l, h, D, ρ, w, pre1, pre2, xs, ys, c, b, hD, hp1, hp2, he => by
    simp [eqFs] at h; subst h
    obtain ⟨rfl, rfl, h4⟩ := eqL_nil (E := E) he
    rw [h4]; simp [Op.eqFields]
  | d + 1, off, f :: r, l, h, D, ρ, w, pre1, pre2, xs, ys, c, b, hD, hp1, hp2, he => by
    simp only [eqFs] at h
    split at h
    · rename_i hf
      simp only [Bool.and_eq_true, decide_eq_true_eq, Nat.beq_eq] at hf
      obtain ⟨hname, hoff⟩ := hf
      split at h
      · rename_i l1 h1
        split at h
        · rename_i hc
          simp only [Bool.and_eq_true, Nat.beq_eq, len_eq] at hc
          split at h
          · rename_i m hm
            simp at h; subst h
            obtain ⟨xs1, xs2, ys1, ys2, c1, b1, c2, b2, rfl, rfl, q1, q2, q3, q4, q5⟩ := eqL_split (E := E) l1 m he
            obtain ⟨r1, r2⟩ := eqOf_run d f.type l1 h1 D ρ w xs1 ys1 c1 b1 (by omega) q3
            obtain ⟨p1, _⟩ := part_run (E := E) (w := w) hc.2 (ρ := ρ) (part_wrap (pre := pre1) (xs := xs1) (post := xs2) (off := f.offset) (by omega) (by omega) (fun hf => (r2 hf).1))
            obtain ⟨p2, _⟩ := part_run (E := E) (w := w) hc.2 (ρ := ρ) (part_wrap (pre := pre2) (xs := ys1) (post := ys2) (off := f.offset) (by omega) (by omega) (fun hf => (r2 hf).2))
            have ih := eqFs_run d (off + l1.length) r m (by rw [← len_eq]; exact hm) D ρ w (pre1 ++ xs1) (pre2 ++ ys1) xs2 ys2 c2 b2 (by omega) (by rw [List.length_append]; omega) (by rw [List.length_append]; omega) q4
            simp only [List.append_assoc] at ih
            simp only [Op.eqFields, hname, ne_eq, not_false_eq_true, if_true, Sem.run_bind, p1, p2, r1, Result.andThen_ok]
            cases hb : combB E c1 b1 with
            | false => simp [q5, hb]
            | true => simp [q5, hb, ih]
          · simp at h
        · simp at h
      · simp at h
    · simp at h
end
theorem eqSpec_tyOf : EqSpec P (tyOf P) := by
  intro t l h
  have h : eqT P t = some l := h
  unfold eqT at h
  split at h
  · simp at h
  · rename_i hc
    simp only [Bool.or_eq_true, Bool.not_eq_true', not_or, Bool.not_eq_true, Bool.not_eq_false] at hc
    refine ⟨hc.1, fun E ρ w xs ys c b he => ?_⟩
    have h1 := (eqOf_run (E := E) 40 t l h 10000 ρ w xs ys c b (by decide) he).1
    simp only [wrapV, hc.2, if_true, V.γ] at h1
    exact h1
theorem tyOk_tyOf : TyOk P (tyOf P) := ⟨fun t => .inr rfl, eqSpec_tyOf⟩
end Go.Ev
end
