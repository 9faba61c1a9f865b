/-
 ReadyOrder: one by one, the highest first.
-/
import Derived.Test.YtgaelfnoffejgaaWEa
set_option linter.unusedSimpArgs false
set_option linter.unusedVariables false
set_option maxRecDepth 100000
noncomputable section
namespace Go.Ev.X
open Go Go.Ev Go.Proofs
variable {E : Env} {f f' : Nat → Int} {Q : Nat → List Nat} {t : Nat} {L L' : List Nat}
theorem btW_app {l : List Bool} {b : Bool} {k : Nat} (h : k < l.length) : btW (l ++ [b]) k = btW l k := by
 unfold btW
 rw [List.getD_eq_getElem?_getD, List.getElem?_append_left h, ← List.getD_eq_getElem?_getD]
theorem bestW_app {l : List Bool} {b : Bool} : ∀ {k : Nat}, k ≤ l.length → bestW (l ++ [b]) k = bestW l k
 | 0, _ => rfl
 | k + 1, h => by
  show (bif btW (l ++ [b]) k then k + 1 else bestW (l ++ [b]) k) = _
  rw [btW_app (by omega), bestW_app (by omega)]; rfl
theorem bits_ex (P : Nat → Nat → Bool) : ∀ m, ∃ l : List Bool, l.length = m ∧ ∀ k, k < m → btW l k = P k (bestW l k)
 | 0 => ⟨[], rfl, fun k h => by omega⟩
 | m + 1 => by
  obtain ⟨l, hl, h⟩ := bits_ex P m
  refine ⟨l ++ [P m (bestW l m)], by simp [hl], fun k hk => ?_⟩
  rw [bestW_app (by omega)]
  by_cases e : k = m
  ·subst e
   unfold btW
   rw [List.getD_eq_getElem?_getD, List.getElem?_append_right (by omega), hl]
   simp
  ·rw [btW_app (by omega)]; exact h k (by omega)
theorem mem_pat : ∀ l : List Bool, l ∈ patW l.length
 | [] => by simp [patW]
 | b :: l => by
  have := mem_pat l
  show b :: l ∈ (patW l.length).map (true :: ·) ++ (patW l.length).map (false :: ·)
  cases b with
  | true => exact List.mem_append_left _ (List.mem_map.2 ⟨l, this, rfl⟩)
  | false => exact List.mem_append_right _ (List.mem_map.2 ⟨l, this, rfl⟩)
theorem best_le (l : List Bool) : ∀ k, bestW l k ≤ k
 | 0 => Nat.le_refl _
 | k + 1 => by
  show (bif btW l k then k + 1 else bestW l k) ≤ k + 1
  cases btW l k with
  | true => exact Nat.le_refl _
  | false => exact Nat.le_succ_of_le (best_le l k)
theorem best_ok {l : List Bool} {pr : Nat → Int} {m : Nat} (h : ∀ k, k < m → btW l k = decide (pr (bestW l k) < pr (k + 1))) : ∀ k, k ≤ m → (∀ i, i ≤ k → pr i ≤ pr (bestW l k)) ∧ ∀ i, i < bestW l k → pr i < pr (bestW l k)
 | 0, _ => ⟨fun i hi => by have : i = 0 := by omega
                           subst this; exact Int.le_refl _, fun i hi => by have : i < 0 := hi; omega⟩
 | k + 1, hk => by
  obtain ⟨g1, g2⟩ := best_ok h k (by omega)
  have hb := h k (by omega)
  show (∀ i, i ≤ k + 1 → pr i ≤ pr (bif btW l k then k + 1 else bestW l k)) ∧ ∀ i, i < (bif btW l k then k + 1 else bestW l k) → pr i < pr (bif btW l k then k + 1 else bestW l k)
  by_cases e : pr (bestW l k) < pr (k + 1)
  ·rw [hb, decide_eq_true e]
   refine ⟨fun i hi => ?_, fun i hi => ?_⟩
   ·show pr i ≤ pr (k + 1)
    by_cases e' : i = k + 1
    ·subst e'; exact Int.le_refl _
    ·have := g1 i (by omega); omega
   ·show pr i < pr (k + 1)
    have hi : i < k + 1 := hi
    have := g1 i (by omega); omega
  ·rw [hb, decide_eq_false e]
   refine ⟨fun i hi => ?_, fun i hi => g2 i hi⟩
   show pr i ≤ pr (bestW l k)
   by_cases e' : i = k + 1
   ·subst e'; omega
   ·exact g1 i (by omega)
structure RndS (n : Nat) (l : List Bool) (E : Env) : Prop where
 mem : l ∈ patW (n - 1)
 e : EntsOk PP cP E 100 (esS n (bestW l (Nat.pred n)))
 fs : FsOk E (fsS n l)
 w : ∃ f' L' Q', OkL f' L' Q' ∧ L'.length = n - 1 ∧ WordsIs (E.s (103 + n)).cs 2048 f' ∧ ∀ i, i < n - 1 → SE.den E (bif Nat.blt i (bestW l (Nat.pred n)) then .v (400 + i) else .v (400 + (i + 1))) = (L'.getD i 0 : Nat)
theorem thrs_ok (hc : ∀ x ∈ L, MemC PP cP 13 [.int .i64 x] f (.tuple #[thV (getT f x) (regs f x), .int .i64 0]) f 20) (hrow : ∀ q, 100 ≤ q → q ≤ 102 + L.length → WordsIs (E.s q).cs 2048 f) (hE : Els E L) (hs : ∀ i j, i < L.length → j < 30 → E.i (800 + 40 * i + j) = fldT (getT f (L.getD i 0)) (regs f (L.getD i 0)) j) :
  ∀ (m i : Nat), i + m = L.length → EntsOk PP cP E (100 + i) ((rngF i m).map thrW)
 | 0, i, h => trivial
 | m + 1, i, h => by
  have hi : i < L.length := by omega
  have hfl : ∀ j, j < 30 → E.i (800 + 40 * i + j) = fldT (getT f (L.getD i 0)) (regs f (L.getD i 0)) j := fun j hj => hs i j hi hj
  exact ⟨ent_g (k := 20) (hrow _ (by omega) (by omega)) (hrow _ (show 100 ≤ 101 + i by omega) (show 101 + i ≤ 102 + L.length by omega)) (hc _ (getD_mem hi)) (by omega) rfl (fun ρ => arg1 (vsi (hE i hi)))
   (fun ρ => tupT (tA_ok (vsi (hfl 0 (by omega))) (vsi (hfl 1 (by omega))) (vsi (hfl 2 (by omega))) (vsb (sbq (hfl 3 (by omega)))) (vsi (hfl 4 (by omega))) (vsi (hfl 5 (by omega))) (vsi (hfl 6 (by omega))) (vsi (hfl 7 (by omega))) (vsb (sbq (hfl 8 (by omega)))) (vsb (sbq (hfl 9 (by omega)))) (vsi (hfl 10 (by omega))) (vsi (hfl 11 (by omega))) (vsi (hfl 12 (by omega))) (vsi (hfl 13 (by omega))) hfl)),
   thrs_ok hc hrow hE hs m (i + 1) (by omega)⟩
def vsS (kd kh : Nat) (L : List Nat) (f : Nat → Int) (i : Nat) : Int := if i = 310 then kd else if i = 311 then kh else fldT (getT f (L.getD ((i - 800) / 40) 0)) (regs f (L.getD ((i - 800) / 40) 0)) ((i - 800) % 40)
theorem vsS_8 {kd kh : Nat} {i j : Nat} (hj : j < 30) : vsS kd kh L f (800 + 40 * i + j) = fldT (getT f (L.getD i 0)) (regs f (L.getD i 0)) j := by
 unfold vsS
 rw [if_neg (by omega), if_neg (by omega), show (800 + 40 * i + j - 800) / 40 = i from by omega, show (800 + 40 * i + j - 800) % 40 = j from by omega]
theorem rndS_ex (h : OkL f L Q) {n : Nat} (hl : L.length = n) (h0 : 0 < n) (h8 : n ≤ 8) : ∃ (l : List Bool) (vs : Nat → Int) (f' : Nat → Int), ∀ E : Env, Els E L → (∀ i, 310 ≤ i → i < 400 ∨ 800 ≤ i ∧ i < 2000 → E.i i = vs i) → (∀ q, 100 ≤ q → q ≤ 102 + n → WordsIs (E.s q).cs 2048 f) → WordsIs (E.s (103 + n)).cs 2048 f' → RndS n l E := by
 have hTT : ∀ u ∈ L, TT u := fun u hu => ((h.el u).1 hu).1
 have hqq : ∀ u ∈ L, (getT f u).q = true := fun u hu => ((h.el u).1 hu).2
 obtain ⟨l, hll, hbt⟩ := bits_ex (fun k b => decide ((getT f (L.getD b 0)).pr < (getT f (L.getD (k + 1) 0)).pr)) (n - 1)
 have hbest := best_ok (l := l) (pr := fun k => (getT f (L.getD k 0)).pr) (m := n - 1) hbt (n - 1) (Nat.le_refl _)
 have hble := best_le l (n - 1)
 obtain ⟨b, hb⟩ : ∃ b, bestW l (n - 1) = b := ⟨_, rfl⟩
 rw [hb] at hbest hble
 have hbn : b < L.length := by omega
 have prN : ∀ i, i < n → ((pN f (L.getD i 0) : Nat) : Int) = (getT f (L.getD i 0)).pr ∧ pN f (L.getD i 0) < 256 := fun i hi => by
  obtain ⟨hp, hpe⟩ := pr_nat h.q (hTT _ (getD_mem (L := L) (i := i) (by omega)))
  exact ⟨hpe, hp⟩
 obtain ⟨t1, t2, t3⟩ := top_L h hbn (fun i hi => by
  have := hbest.1 i (by omega)
  have e1 := (prN i (by omega)).1
  have e2 := (prN b (by omega)).1
  omega) (fun i hi => by
  have := hbest.2 i hi
  have e1 := (prN i (by omega)).1
  have e2 := (prN b (by omega)).1
  omega)
 obtain ⟨o, ho, kh, ⟨p1, _⟩, c1⟩ := high_p h.q
 rw [t3 o ho] at c1
 obtain ⟨k0, ⟨p0, u0⟩, c0⟩ := fronts_p t1 (q_w64 TT_thr h.q t1).1
 have hk0 : k0 = 1 := by omega
 subst hk0
 rw [headOf_eq TT_thr h.q t1, t2] at c0
 have hs := split_at hbn
 obtain ⟨dT, dq, Q', h'⟩ := drop_L (Q := Q) (A := L.take b) (B := L.drop (b + 1)) (t := L.getD b 0) (f := f) (by rw [← hs]; exact h)
 obtain ⟨kd, ⟨pd, _⟩, cd⟩ := drop_cp h.q dT dq
 refine ⟨l, vsS kd kh L f, dropF f (L.getD b 0), fun E hE hv hrow hlast => ?_⟩
 have hpred : Nat.pred n = n - 1 := rfl
 have e8 : ∀ i j, i < L.length → j < 30 → E.i (800 + 40 * i + j) = fldT (getT f (L.getD i 0)) (regs f (L.getD i 0)) j := fun i j hi hj => (hv _ (by omega) (.inr (by omega))).trans (vsS_8 hj)
 have prE : ∀ i, i < n → (prS i).den E = (getT f (L.getD i 0)).pr := fun i hi => by
  have := e8 i 1 (by omega) (by omega)
  show E.i (801 + 40 * i) = _
  rw [show 801 + 40 * i = 800 + 40 * i + 1 from by omega]; exact this
 refine ⟨by have := mem_pat l; rw [hll] at this; exact this, ?_, ?_, _, _, Q', h', ?_, hlast, fun i hi => ?_⟩
 ·unfold esS
  rw [hpred, hb]
  refine ents_app (by have := thrs_ok (E := E) (fun x hx => thr_p (hTT x hx) (h.q.thr x (hTT x hx))) (by rw [hl]; exact hrow) hE e8 L.length 0 (by omega); rw [hl] at this; exact this) ?_
  have hlen : ((rng n).map thrW).length = n := by
   rw [List.length_map]
   have : ∀ m i, (rngF i m).length = m := fun m => by
    induction m with
    | zero => exact fun i => rfl
    | succ m ih => exact fun i => by show (rngF (i + 1) m).length + 1 = _; rw [ih]
   exact this _ _
  rw [hlen]
  have hel : ∀ ρ, (V.si .i64 (.v (400 + b))).γ E ρ = .int .i64 (L.getD b 0 : Nat) := fun ρ => vsi (hE b hbn)
  refine ⟨ent_g (hrow _ (by omega) (by omega)) (hrow _ (show 100 ≤ 101 + n by omega) (show 101 + n ≤ 102 + n by omega)) c1 p1 ((hv 311 (by omega) (.inl (by omega))).trans rfl) (fun ρ => rfl) hel, ?_, ?_, trivial⟩
  ·refine ent_g (k := 1) (hrow _ (by omega) (by omega)) (hrow _ (show 100 ≤ 102 + n by omega) (Nat.le_refl (102 + n))) c0 (by omega) rfl (fun ρ => arg1 (vsi ?_)) hel
   rw [prE b (by omega), (prN b (by omega)).1]
  ·exact ent_g (hrow _ (by omega) (by omega)) hlast cd pd ((hv 310 (by omega) (.inl (by omega))).trans rfl) (fun ρ => arg1 (hel ρ)) (fun ρ => rfl)
 ·refine ⟨f_gt ?_, fs_app (fs_map _ _ fun k h1 h2 => ?_) (fs_app (fs_map _ _ fun k h1 h2 => ?_) ⟨f_nen rfl, trivial⟩)⟩
  ·rw [prE 0 h0]
   have := (prN 0 h0).1
   show (-1 : Int) < _
   omega
  ·refine (sbq (b := (getT f (L.getD k 0)).q) ?_).trans (hqq _ (getD_mem (by omega)))
   have := e8 k 3 (by omega) (by omega)
   rw [show 803 + 40 * k = 800 + 40 * k + 3 from by omega]; exact this
  ·have h2 : k < n - 1 := by rw [hpred] at h2; omega
   show (SB.cmp .gtr (prS (k + 1)) (prS (bestW l k))).den E = btW l k
   have hbk := best_le l k
   rw [hbt k h2]
   by_cases e : (getT f (L.getD (bestW l k) 0)).pr < (getT f (L.getD (k + 1) 0)).pr
   ·rw [decide_eq_true e]
    exact f_gt (by rw [prE _ (by omega), prE _ (by omega)]; exact e)
   ·rw [decide_eq_false e]
    exact f_gtn (by rw [prE _ (by omega), prE _ (by omega)]; omega)
 ·rw [List.length_append, List.length_take, List.length_drop]; omega
 ·rw [hpred, hb, getD_take_drop hbn]
  by_cases e : i < b
  ·rw [show Nat.blt i b = true by simpa using e, if_pos e]; exact hE i (by omega)
  ·rw [show Nat.blt i b = false by rw [Bool.eq_false_iff]; simpa using e, if_neg e]; exact hE (i + 1) (by omega)
theorem goS_of {n : Nat} {l : List Bool} {P : List (List Bool)} (hr : allB (fun l => Nat.beq (goS n l) 0) P = true) (hl : l ∈ P) : goS n l = 0 := Nat.eq_of_beq_eq_true (allB_ok hr l hl)
theorem goS_ok {n : Nat} {l : List Bool} (h0 : 0 < n) (h8 : n ≤ 8) (hl : l ∈ patW (n - 1)) : goS n l = 0 := by
 have h : n = 1 ∨ n = 2 ∨ n = 3 ∨ n = 4 ∨ n = 5 ∨ n = 6 ∨ n = 7 ∨ n = 8 := by omega
 rcases h with rfl | rfl | rfl | rfl | rfl | rfl | rfl | rfl
 ·exact goS_of (n := 1) (P := patW 0) goS1 hl
 ·exact goS_of (n := 2) (P := patW 1) goS2 hl
 ·exact goS_of (n := 3) (P := patW 2) goS3 hl
 ·exact goS_of (n := 4) (P := patW 3) goS4 hl
 ·exact goS_of (n := 5) (P := patW 4) goS5 hl
 ·exact goS_of (n := 6) (P := patW 5) goS6 hl
 ·exact goS_of (n := 7) (P := patW 6) goS7 hl
 ·exact goS_of (n := 8) (P := patW 7) goS8 hl
end Go.Ev.X
end
