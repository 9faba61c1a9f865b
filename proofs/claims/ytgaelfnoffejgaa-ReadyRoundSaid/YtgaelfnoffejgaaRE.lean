/-
 Threads told by symbols, those who wait, and going round.
-/
import Derived.Test.YtgaelfnoffejgaaRP
import Derived.Test.YtgaelfnoffejgaaRQ
set_option linter.unusedSimpArgs false
set_option linter.unusedVariables false
set_option maxRecDepth 100000
noncomputable section
namespace Go.Ev.X
open Go Go.Ev Go.Proofs
variable {E : Env} {f f' : Nat → Int} {Q : Nat → List Nat} {t : Nat}
theorem sgL_cut {l : List (Nat × SE)} {i : Nat} (h : ∀ p ∈ l, i ≠ p.1) : sgL l i = none := by
 induction l with
 | nil => rfl
 | cons p r ih =>
  obtain ⟨a, s⟩ := p
  have e : Nat.beq i a = false := by
   rw [Bool.eq_false_iff]; simpa using h (a, s) (by simp)
  show bc (Nat.beq i a) (some s) (sgL r i) = none
  rw [e]
  exact ih fun p hp => h p (by simp [hp])
theorem fs_app {l m : List (SB × Bool)} (h1 : FsOk E l) (h2 : FsOk E m) : FsOk E (l ++ m) := by
 induction l with
 | nil => exact h2
 | cons p r ih =>
  obtain ⟨c, b⟩ := p
  exact ⟨h1.1, ih h1.2⟩
theorem fs_map {s : Nat → SB × Bool} : ∀ (m i : Nat), (∀ k, i ≤ k → k < i + m → (s k).1.den E = (s k).2) → FsOk E ((rngF i m).map s)
 | 0, i, h => trivial
 | m + 1, i, h => ⟨h i (by omega) (by omega), fs_map m (i + 1) fun k h1 h2 => h k (by omega) (by omega)⟩
theorem ents_app {c : MC} : ∀ {es : List Ent} {q : Nat} {r : List Ent}, EntsOk PP c E q es → EntsOk PP c E (q + es.length) r → EntsOk PP c E q (es ++ r)
 | [], q, r, _, h => h
 | e :: es, q, r, h, h2 => ⟨h.1, ents_app h.2 (by rw [show q + 1 + es.length = q + (e :: es).length by simp; omega]; exact h2)⟩
theorem tA_ok {ρ : Rho} {b : Nat} {x0 x1 x2 x3 x4 x5 x6 x7 x8 x9 x10 x11 x12 x13 : V} {v : TV} {r : Nat → Int} (h0 : x0.γ E ρ = .int .i64 v.st) (h1 : x1.γ E ρ = .int .i64 v.pr) (h2 : x2.γ E ρ = .int .i64 v.sl) (h3 : x3.γ E ρ = .bool v.q) (h4 : x4.γ E ρ = .int .i64 v.pv) (h5 : x5.γ E ρ = .int .i64 v.nx) (h6 : x6.γ E ρ = .int .i64 v.bl) (h7 : x7.γ E ρ = .int .i64 v.bd) (h8 : x8.γ E ρ = .bool v.g) (h9 : x9.γ E ρ = .bool v.c) (h10 : x10.γ E ρ = .int .i64 v.bo) (h11 : x11.γ E ρ = .int .i64 v.ha) (h12 : x12.γ E ρ = .int .i64 v.fk) (h13 : x13.γ E ρ = .int .i64 v.fa)
  (hr : ∀ j, j < 30 → E.i (b + j) = fldT v r j) : (tA b x0 x1 x2 x3 x4 x5 x6 x7 x8 x9 x10 x11 x12 x13).γ E ρ = thV v r :=
 thG h0 h1 h2 h3 h4 h5 h6 h7 h8 h9 h10 h11 h12 h13 (vsi (hr 14 (by omega))) (vsi (hr 15 (by omega))) (vsi (hr 16 (by omega))) (vsi (hr 17 (by omega))) (vsi (hr 18 (by omega))) (vsi (hr 19 (by omega))) (vsi (hr 20 (by omega))) (vsi (hr 21 (by omega))) (vsi (hr 22 (by omega))) (vsi (hr 23 (by omega))) (vsi (hr 24 (by omega))) (vsi (hr 25 (by omega))) (vsi (hr 26 (by omega))) (vsi (hr 27 (by omega))) (vsi (hr 28 (by omega))) (vsi (hr 29 (by omega)))
theorem lk_nx : ∀ {L : List Nat} {p i : Nat}, Lk f p L 0 → i < L.length → (getT f (L.getD i 0)).nx = (L.getD (i + 1) 0 : Nat)
 | [], p, i, h, hi => by simp at hi
 | t :: r, p, 0, h, hi => by
  obtain ⟨_, h2, _⟩ := h
  show (getT f t).nx = _
  rw [h2]
  cases r <;> rfl
 | t :: r, p, i + 1, h, hi => by
  have := lk_nx (i := i) h.2.2 (by simpa using hi)
  simpa using this
theorem len_le : ∀ {S L : List Nat}, L.Nodup → (∀ x ∈ L, x ∈ S) → L.length ≤ S.length
 | [], L, hn, h => by
  cases L with
  | nil => simp
  | cons a r => exact absurd (h a (by simp)) (by simp)
 | s :: S, L, hn, h => by
  by_cases hs : s ∈ L
  ·obtain ⟨a, b, rfl⟩ := List.append_of_mem hs
   obtain ⟨na, nb, nab⟩ := List.nodup_append.1 hn
   have nb' := List.nodup_cons.1 nb
   have hab : (a ++ b).Nodup := List.nodup_append.2 ⟨na, nb'.2, fun x hx y hy => nab x hx y (by simp [hy])⟩
   have := len_le (S := S) hab fun x hx => by
    have hx' : x ∈ a ++ s :: b := by
     rcases List.mem_append.1 hx with h1 | h1
     ·simp [h1]
     ·simp [h1]
    rcases List.mem_cons.1 (h x hx') with rfl | h2
    ·rcases List.mem_append.1 hx with h1 | h1
     ·exact absurd rfl (nab x h1 x (by simp))
     ·exact absurd h1 nb'.1
    ·exact h2
   simp at this ⊢; omega
  ·have := len_le (S := S) hn fun x hx => by
    rcases List.mem_cons.1 (h x hx) with rfl | h2
    ·exact absurd hx hs
    ·exact h2
   simp; omega
theorem len8 {L : List Nat} (hn : L.Nodup) (h : ∀ x ∈ L, TT x) : L.length ≤ 8 := len_le (S := thrL) hn fun x hx => TT_mem (h x hx)
theorem getD_mem {L : List Nat} {i : Nat} (hi : i < L.length) : L.getD i 0 ∈ L := by
 rw [List.getD_eq_getElem?_getD, List.getElem?_eq_getElem hi]
 exact List.getElem_mem _
theorem symP_den {L : List Nat} (h0 : E.i 450 = (L.getD 0 0 : Nat)) (hs : ∀ i j, i < 9 → j < 30 → E.i (800 + 40 * i + j) = fldT (getT f (L.getD i 0)) (regs f (L.getD i 0)) j) (hlk : Lk f 0 L 0) : ∀ {i : Nat}, i < 9 → i < L.length → (symP i).den E = (L.getD i 0 : Nat)
 | 0, _, _ => h0
 | i + 1, h1, h2 => by
  have := hs i 5 (by omega) (by omega)
  show E.i (805 + 40 * i) = _
  rw [show 805 + 40 * i = 800 + 40 * i + 5 from by omega, this]
  exact lk_nx hlk (by omega)
theorem thr_ents {L : List Nat} (hL : ∀ x ∈ L, TT x) (hq : ∀ x ∈ L, RightAt f x) (hn : L.length ≤ 8) (hrow : ∀ q, 101 ≤ q → q ≤ 101 + L.length → WordsIs (E.s q).cs 2048 f) (h0 : E.i 450 = (L.getD 0 0 : Nat)) (hs : ∀ i j, i < 9 → j < 30 → E.i (800 + 40 * i + j) = fldT (getT f (L.getD i 0)) (regs f (L.getD i 0)) j) (hlk : Lk f 0 L 0)
  (hk : ∀ i, i < L.length → E.i (325 + i) = 20) : ∀ (m i : Nat), i + m = L.length → EntsOk PP cP E (101 + i) ((rngF i m).map (thrQ L.length))
 | 0, i, h => trivial
 | m + 1, i, h => by
  have hi : i < L.length := by omega
  have hmem := getD_mem hi
  have hsd := symP_den h0 hs hlk (i := i) (by omega) hi
  have hfl : ∀ j, j < 30 → E.i (800 + j + 40 * i) = fldT (getT f (L.getD i 0)) (regs f (L.getD i 0)) j := fun j hj => by
   rw [show 800 + j + 40 * i = 800 + 40 * i + j from by omega]; exact hs i j (by omega) hj
  refine ⟨?_, thr_ents hL hq hn hrow h0 hs hlk hk m (i + 1) (by omega)⟩
  refine ent_g (k := 20) (hrow _ (by omega) (by omega)) (hrow _ (show 101 ≤ 102 + i by omega) (show 102 + i ≤ 101 + L.length by omega)) (thr_p (hL _ hmem) (hq _ hmem)) (by omega) (hk i hi) (fun ρ => arg1 (vsi hsd)) (fun ρ => tupT (tA_ok (vsi (hfl 0 (by omega))) (vsi (hfl 1 (by omega))) (vsi (hfl 2 (by omega))) (vsb (sbq (hfl 3 (by omega)))) (vsi (hfl 4 (by omega))) ?_ (vsi (hfl 6 (by omega))) (vsi (hfl 7 (by omega))) (vsb (sbq (hfl 8 (by omega)))) (vsb (sbq (hfl 9 (by omega)))) (vsi (hfl 10 (by omega))) (vsi (hfl 11 (by omega))) (vsi (hfl 12 (by omega))) (vsi (hfl 13 (by omega))) (fun j hj => hs i j (by omega) hj)))
  have := lk_nx hlk hi
  by_cases e : i + 1 = L.length
  ·rw [show Nat.beq (i + 1) L.length = true by simpa using e]
   show Value.int .i64 0 = _
   rw [this, List.getD_eq_getElem?_getD, List.getElem?_eq_none (by omega)]; rfl
  ·rw [show Nat.beq (i + 1) L.length = false by rw [Bool.eq_false_iff]; simpa using e]
   exact vsi (hfl 5 (by omega))
def rotF (f : Nat → Int) (L : List Nat) : Nat → Nat → Int
 | 0 => f
 | i + 1 => pushF (dropF (rotF f L i) (L.getD i 0)) (L.getD i 0)
theorem nd_head {a b r : List Nat} {t : Nat} (hn : (t :: r).Nodup) (h : t :: r = a ++ t :: b) : a = [] ∧ b = r := by
 cases a with
 | nil => simp at h; exact ⟨rfl, h.symm⟩
 | cons x a' =>
  simp at h
  have hn' := List.nodup_cons.1 hn
  exact absurd (by rw [h.2]; simp) hn'.1
theorem rot_step (h : QInv TT f Q) {p : Nat} (hp : p < 256) {r : List Nat} (hQ : Q p = t :: r) :
  QInv TT (dropF f t) (setP Q p r) ∧ QInv TT (pushF (dropF f t) t) (setP Q p (r ++ [t])) ∧ (∀ u, TT u → core (getT (pushF (dropF f t) t) u) = core (getT f u)) ∧ (∀ i, Out i → pushF (dropF f t) t i = f i) ∧
  MemE PP cP 15 [.int .i64 p] f (.int .i64 t) f ∧ MemE PP cP 12 [.int .i64 t] f (.int .i64 0) (dropF f t) ∧ MemE PP cP 11 [.int .i64 t] (dropF f t) (.int .i64 0) (pushF (dropF f t) t) := by
 obtain ⟨ht, hpr, hq⟩ := h.el p t hp (by rw [hQ]; simp)
 have hpN : (getT f t).pr.toNat = p := by rw [hpr, Int.toNat_natCast]
 obtain ⟨⟨a, b, hab, q1⟩, g2, g3⟩ := drop_g TT_thr h ht hq
 rw [hpN] at hab q1
 have hnd := h.nd p hp
 rw [hQ] at hab hnd
 obtain ⟨rfl, rfl⟩ := nd_head hnd hab
 rw [List.nil_append] at q1
 obtain ⟨pv, nx, e⟩ := g2 t ht
 have hq0 : (getT (dropF f t) t).q = false := by rw [e]; simp
 have hpr2 : (getT (dropF f t) t).pr = (getT f t).pr := by rw [e]
 obtain ⟨p1, p2, p3⟩ := push_g TT_thr q1 ht hq0
 rw [hpr2, hpN, setP_same] at p1
 have hss : ∀ x : List Nat, setP (setP Q p b) p x = setP Q p x := fun x => funext fun i => by
  by_cases e : i = p
  ·subst e; rw [setP_same, setP_same]
  ·rw [setP_other _ _ e, setP_other _ _ e, setP_other _ _ e]
 rw [hss] at p1
 refine ⟨q1, p1, fun u hu => ?_, fun i ho => ?_, ?_, drop_cp h ht hq, push_cp q1 ht hq0⟩
 ·obtain ⟨pv', nx', e'⟩ := p2 u hu
  obtain ⟨pv2, nx2, e2⟩ := g2 u hu
  rw [e', e2]; rfl
 ·rw [push_out q1 ht ho, drop_out h ht hq ho]
 ·have := fronts_p hp (q_w64 TT_thr h hp).1
  rw [headOf_eq TT_thr h hp, hQ] at this
  exact this
theorem rot_chain (h : QInv TT f Q) {p : Nat} (hp : p < 256) : ∀ i, i ≤ (Q p).length → QInv TT (rotF f (Q p) i) (setP Q p ((Q p).drop i ++ (Q p).take i)) ∧ (∀ u, TT u → core (getT (rotF f (Q p) i) u) = core (getT f u)) ∧ ∀ k, Out k → rotF f (Q p) i k = f k
 | 0, _ => by
  have e : setP Q p ((Q p).drop 0 ++ (Q p).take 0) = Q := funext fun i => by
   by_cases e : i = p
   ·subst e; rw [setP_same]; simp
   ·rw [setP_other _ _ e]
  rw [e]
  exact ⟨h, fun u hu => rfl, fun k hk => rfl⟩
 | i + 1, hi => by
  obtain ⟨h1, h2, h3⟩ := rot_chain h hp i (by omega)
  have hi' : i < (Q p).length := by omega
  have hd : (Q p).drop i = (Q p).getD i 0 :: (Q p).drop (i + 1) := by
   rw [List.drop_eq_getElem_cons hi', List.getD_eq_getElem?_getD, List.getElem?_eq_getElem hi']; rfl
  have hQ : setP Q p ((Q p).drop i ++ (Q p).take i) p = (Q p).getD i 0 :: ((Q p).drop (i + 1) ++ (Q p).take i) := by
   rw [setP_same, hd]; rfl
  obtain ⟨_, g2, g3, g4, _⟩ := rot_step h1 hp hQ
  have hss : ∀ x y : List Nat, setP (setP Q p y) p x = setP Q p x := fun x y => funext fun i => by
   by_cases e : i = p
   ·subst e; rw [setP_same, setP_same]
   ·rw [setP_other _ _ e, setP_other _ _ e, setP_other _ _ e]
  rw [hss] at g2
  have ht : (Q p).take (i + 1) = (Q p).take i ++ [(Q p).getD i 0] := by
   rw [List.take_succ_eq_append_getElem hi', List.getD_eq_getElem?_getD, List.getElem?_eq_getElem hi']; rfl
  rw [ht, ← List.append_assoc]
  exact ⟨g2, fun u hu => (g3 u hu).trans (h2 u hu), fun k hk => (g4 k hk).trans (h3 k hk)⟩
theorem rot_all (h : QInv TT f Q) {p : Nat} (hp : p < 256) : rotF f (Q p) (Q p).length = f := by
 obtain ⟨h1, h2, h3⟩ := rot_chain h hp (Q p).length (Nat.le_refl _)
 have e : setP Q p ((Q p).drop (Q p).length ++ (Q p).take (Q p).length) = Q := funext fun i => by
  by_cases e : i = p
  ·subst e; rw [setP_same]; simp
  ·rw [setP_other _ _ e]
 rw [e] at h1
 exact words_ext h h1 h2 h3
theorem rot_cs (h : QInv TT f Q) {p : Nat} (hp : p < 256) {i : Nat} (hi : i < (Q p).length) : MemE PP cP 15 [.int .i64 p] (rotF f (Q p) i) (.int .i64 ((Q p).getD i 0 : Nat)) (rotF f (Q p) i) ∧
  MemE PP cP 12 [.int .i64 ((Q p).getD i 0 : Nat)] (rotF f (Q p) i) (.int .i64 0) (dropF (rotF f (Q p) i) ((Q p).getD i 0)) ∧ MemE PP cP 11 [.int .i64 ((Q p).getD i 0 : Nat)] (dropF (rotF f (Q p) i) ((Q p).getD i 0)) (.int .i64 0) (rotF f (Q p) (i + 1)) := by
 obtain ⟨h1, _, _⟩ := rot_chain h hp i (by omega)
 have hd : (Q p).drop i = (Q p).getD i 0 :: (Q p).drop (i + 1) := by
  rw [List.drop_eq_getElem_cons hi, List.getD_eq_getElem?_getD, List.getElem?_eq_getElem hi]; rfl
 have hQ : setP Q p ((Q p).drop i ++ (Q p).take i) p = (Q p).getD i 0 :: ((Q p).drop (i + 1) ++ (Q p).take i) := by
  rw [setP_same, hd]; rfl
 obtain ⟨_, _, _, _, g5, g6, g7⟩ := rot_step h1 hp hQ
 exact ⟨g5, g6, g7⟩
theorem full_run : runX cx0 cP [⟨13, [.si .i64 (.v 1)], 1, .tup [tD 100, .i .i64 0], .v 9000⟩] [] 11 [.si .i64 (.v 1)] ⟨[(.cmp .eql (.v 103) (.lit 1), true)], []⟩ (.i .i64 120) 1 s1 = 0 := by decide +kernel
def fullVs (f : Nat → Int) (t : Nat) : Nat → Int := fun i => match i / 100 with
 | 0 => (t : Int)
 | 1 => fldT (getT f t) (regs f t) (i % 100)
 | 90 => 20
 | _ => 0
theorem full_p (h : QInv TT f Q) (ht : TT t) (hq : (getT f t).q = true) : MemE PP cP 11 [.int .i64 t] f (.int .i64 120) f :=
 ⟨0 + 20, by omega, memC_x hC0 (by decide) full_run rfl (fullVs f t) (fun _ => f) fun st => ⟨stp_add (k := 0) (m := 20) rfl rfl (by omega), fa_list ⟨(sbq rfl).trans hq, trivial⟩ trivial,
  ⟨ent_y (k := 20) (thr_p ht (h.thr t ht)) (by omega) rfl (fun ρ => rfl) (fun ρ => tupT (thG rfl rfl rfl (vsb (sbq rfl)) rfl rfl rfl rfl (vsb (sbq rfl)) (vsb (sbq rfl)) rfl rfl rfl rfl rfl rfl rfl rfl rfl rfl rfl rfl rfl rfl rfl rfl rfl rfl rfl rfl)), trivial⟩, ps_list trivial, fun ρ => rfl, fun ρ => rfl⟩⟩
end Go.Ev.X
end
