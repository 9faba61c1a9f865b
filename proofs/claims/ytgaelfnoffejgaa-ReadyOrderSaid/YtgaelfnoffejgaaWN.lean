/-
 ReadyOrder: the law.
-/
import Derived.Test.YtgaelfnoffejgaaWM
set_option linter.unusedSimpArgs false
set_option linter.unusedVariables false
set_option maxRecDepth 100000
noncomputable section
namespace Go.Ev.X
open Go Go.Ev Go.Proofs
variable {E : Env} {f f' : Nat → Int} {Q : Nat → List Nat} {t : Nat} {L L' : List Nat}
theorem sgX_el {h : List (Nat × SE)} {g : Nat → SE} {n i : Nat} (hh : ∀ p ∈ h, p.1 < 400 ∨ 100000 ≤ p.1) (hi : i < n) (h8 : n ≤ 100) : sgL (h ++ (rng n).map fun i => (400 + i, g i)) (400 + i) = some (g i) := by
 rw [sgL_app fun p hp => by have := hh p hp; omega]
 exact sgL_map (g := g) (b := 400) n 0 (Nat.zero_le _) (by omega)
theorem sgX_no {h : List (Nat × SE)} {g : Nat → SE} {n i : Nat} (hh : ∀ p ∈ h, i ≠ p.1) (hi : i < 400 ∨ 400 + n ≤ i) : sgL (h ++ (rng n).map fun i => (400 + i, g i)) i = none := by
 rw [sgL_app hh]
 refine sgL_cut fun p hp => ?_
 obtain ⟨k, hk, rfl⟩ := List.mem_map.1 hp
 have := mem_rngFi hk
 show i ≠ 400 + k
 omega
structure InvW2 (m n : Nat) (E : Env) : Prop where
 m : m = n
 n8 : n ≤ 8
 z : n = 0 → EntsOk PP cP E 100 esZ
 s : 0 < n → ∃ l, RndS n l E
theorem st2_rows : allB (fun n => rowless (st2 n).h) (rng 9) = true := by decide +kernel
theorem lead2W {n m q : Nat} (h : OkL f L Q) (hl : L.length = n) (h8 : n ≤ 8) (hq : WordsIs (E.s q).cs 2048 f) {σ : Sg} (gp : σ 100100 = some (.lit (.ofNat q))) (gel : ∀ i, i < n → ∃ s, σ (400 + i) = some s ∧ s.den E = (L.getD i 0 : Nat))
  (nf : ∀ i, 310 ≤ i → i < 400 ∨ 800 ≤ i ∧ i < 2000 → σ i = none) (nr : ∀ q, 101 ≤ q → q < 200 → σ (100000 + q) = none) (hm : n < m) : LeadsK st2 InvW2 E (nk2 n σ) m := by
 have key : ∀ (vs : Nat → Int) (rows : Nat → Row), ∃ E', TrE σ E E' ∧ Els E' L ∧ WordsIs (E'.s 100).cs 2048 f ∧ (∀ i, 310 ≤ i → i < 400 ∨ 800 ≤ i ∧ i < 2000 → E'.i i = vs i) ∧ ∀ q, 101 ≤ q → q < 200 → E'.s q = rows q := by
  intro vs rows
  have t := nxA_tr σ E 0 vs rows
  refine ⟨nxA σ E 0 vs rows, t, fun i hi => ?_, ?_, fun i h1 h2 => by simp [nxA, nf i h1 h2], fun q h1 h2 => ?_⟩
  ·obtain ⟨s, g1, g2⟩ := gel i (by omega)
   exact (t.i _ _ g1).trans g2
  ·rw [nxA_s]
   unfold nxS
   rw [if_neg (by omega), show 100000 + 100 = 100100 from rfl, gp]; exact hq
  ·rw [nxA_s]
   unfold nxS
   rw [if_neg (by omega), nr q h1 h2]
 have hrw : ∀ E', ∀ p o, (st2 n).h.t.get p = some o → RowEl E' o := fun E' => rowless_ok (rng_ok st2_rows n (by omega)) E'
 by_cases h0 : n = 0
 ·subst h0
  have hL : L = [] := List.eq_nil_of_length_eq_zero hl
  obtain ⟨o, ho, kh, ⟨p1, _⟩, c1⟩ := high_p h.q
  have hz : topH Q o = 0 := by
   cases ho with
   | none _ => rfl
   | some p hp hne _ => exact absurd (by rw [h.fl p hp, hL]; rfl) hne
  rw [hz] at c1
  obtain ⟨E', t, e1, e2, e3, e4⟩ := key (fun _ => kh) (fun _ => rowF 2048 f)
  refine leadsK_of fun _ => ⟨0, σ, 0, E', List.mem_singleton.2 rfl, hm, ⟨rfl, by omega, fun _ => ⟨ent_g e2 ?_ c1 p1 ((e3 311 (by omega) (.inl (by omega))).trans rfl) (fun ρ => rfl) (fun ρ => rfl), trivial⟩, fun h => by omega⟩, t, hrw E'⟩
  show WordsIs (E'.s 101).cs 2048 f
  rw [e4 101 (by omega) (by omega)]; exact rowF_is _ _
 ·obtain ⟨l, vs, f', hall⟩ := rndS_ex h hl (by omega) h8
  obtain ⟨E', t, e1, e2, e3, e4⟩ := key vs (fun q => if q = 103 + n then rowF 2048 f' else rowF 2048 f)
  have hR := hall E' e1 e3 (fun q h1 h2 => by
   by_cases e : q = 100
   ·subst e; exact e2
   ·rw [e4 q (by omega) (by omega), if_neg (by omega)]; exact rowF_is _ _) (by rw [e4 _ (by omega) (by omega), if_pos rfl]; exact rowF_is _ _)
  have hb : Nat.beq n 0 = false := by rw [Bool.eq_false_iff]; simpa using h0
  have hst : st2 n = (mv2 n).st := by unfold st2; rw [hb]; rfl
  have hnk : nk2 n σ = nextM (mv2 n) σ := by unfold nk2; rw [hb]; rfl
  rw [hnk]
  exact leadsK_M (s := mv2 n) (rng_ok mvW_ok.2 n (by omega)) (j' := n) (m' := n) hst hm ⟨rfl, h8, fun h => by omega, fun _ => ⟨l, hR⟩⟩ t (by rw [← hst]; exact hrw E')
structure InvW1 (z : Nat) (B : Int) (m j : Nat) (E : Env) : Prop where
 r : z = 1 → E.i 11 = (E.s 1).len ∧ ∃ D, RowI (E.s 1) D
 b : z = 1 → B = E.i 11
 i0 : 0 ≤ E.i 12
 m : (m : Int) + E.i 12 = B
 c : ∃ n, n ≤ 8 ∧ (z = 0 → n = 0) ∧ ((j = 2 * n + 1 ∧ z = 1 ∧ E.i 12 < E.i 11 ∧ ∃ c k, RndW c n k E) ∨
  (j = 2 * n ∧ (z = 1 → ¬ E.i 12 < E.i 11) ∧ ∃ f L Q, OkL f L Q ∧ L.length = n ∧ Els E L ∧ WordsIs (E.s 100).cs 2048 f))
theorem st1_rows : allB (fun n => rowsB1 (st1 1 (2 * n + 1)).h && rowU (st1 1 (2 * n)).h) (rng 9) = true ∧ rowU (st1 0 0).h = true := by decide +kernel
theorem lead1W {z n m q : Nat} {B x : Int} (hz : z = 0 ∨ z = 1) (h : OkL f L Q) (hl : L.length = n) (h8 : n ≤ 8) (hz0 : z = 0 → n = 0) (hq : WordsIs (E.s q).cs 2048 f) {σ : Sg} (g11 : σ 11 = some (.v 11)) {s12 : SE} (g12 : σ 12 = some s12) (hx : s12.den E = x) (gp : σ 100100 = some (.lit (.ofNat q)))
  (gel : ∀ i, i < n → ∃ s, σ (400 + i) = some s ∧ s.den E = (L.getD i 0 : Nat)) (n13 : σ 13 = none) (nf : ∀ i, 300 ≤ i → i < 400 → σ i = none) (nr : ∀ q, 101 ≤ q → q < 200 → σ (100000 + q) = none) (hr : z = 1 → E.i 11 = (E.s 1).len ∧ ∃ D, RowI (E.s 1) D) (h0 : 0 ≤ x) (hB : z = 1 → B = E.i 11) (hxB : x ≤ B) (hm : B - x < m) :
  LeadsK (st1 z) (InvW1 z B) E (nk1 z n σ) m := by
 have key : ∀ (vs : Nat → Int) (rows : Nat → Row), ∃ E', TrE σ E E' ∧ E'.i 11 = E.i 11 ∧ E'.i 12 = x ∧ E'.s 1 = { E.s 1 with idx := x.toNat } ∧ Els E' L ∧ WordsIs (E'.s 100).cs 2048 f ∧ E'.i 13 = vs 13 ∧ (∀ i, 300 ≤ i → i < 400 → E'.i i = vs i) ∧ ∀ q, 101 ≤ q → q < 200 → E'.s q = rows q := by
  intro vs rows
  have t := nxA_tr σ E x vs rows
  refine ⟨nxA σ E x vs rows, t, t.i 11 _ g11, (t.i 12 _ g12).trans hx, rfl, fun i hi => ?_, ?_, by simp [nxA, n13], fun i h1 h2 => by simp [nxA, nf i h1 h2], fun q h1 h2 => ?_⟩
  ·obtain ⟨s, g1, g2⟩ := gel i (by omega)
   exact (t.i _ _ g1).trans g2
  ·rw [nxA_s]
   unfold nxS
   rw [if_neg (by omega), show 100000 + 100 = 100100 from rfl, gp]; exact hq
  ·rw [nxA_s]
   unfold nxS
   rw [if_neg (by omega), nr q h1 h2]
 have fin : ∀ j' E', (j' = 2 * n ∨ j' = 2 * n + 1 ∧ z = 1) → InvW1 z B (B - x).toNat j' E' → TrE σ E E' → (∀ p o, (st1 z j').h.t.get p = some o → RowEl E' o) → LeadsK (st1 z) (InvW1 z B) E (nk1 z n σ) m := by
  intro j' E' hj hI t hrow
  by_cases hn : n = 0
  ·subst hn
   refine leadsK_of fun _ => ⟨j', σ, _, E', ?_, by omega, hI, t, hrow⟩
   rcases hz with rfl | rfl
   ·have : j' = 0 := by omega
    subst this
    exact List.mem_singleton.2 rfl
   ·show (j', σ) ∈ [(0, σ), (1, σ)]
    have : j' = 0 ∨ j' = 1 := by omega
    rcases this with rfl | rfl <;> simp
  ·have hz1 : z = 1 := by
    rcases hz with rfl | rfl
    ·exact absurd (hz0 rfl) hn
    ·rfl
   subst hz1
   have hnk : nk1 1 n σ = fun fr h => Nat.add (nextM (mv1 1 (2 * n)) σ fr h) (nextM (mv1 1 (2 * n + 1)) σ fr h) := by
    unfold nk1
    rw [show Nat.beq n 0 = false by rw [Bool.eq_false_iff]; simpa using hn]; rfl
   rw [hnk]
   intro fr h hk
   have hk : nextM (mv1 1 (2 * n)) σ fr h + nextM (mv1 1 (2 * n + 1)) σ fr h = 0 := hk
   have hst : st1 1 j' = (mv1 1 j').st := by
    unfold st1
    have : nW j' ≠ 0 := by
     show j' / 2 ≠ 0
     omega
    rw [show Nat.beq (nW j') 0 = false by rw [Bool.eq_false_iff]; simpa using this]; rfl
   have hj0 : nextM (mv1 1 j') σ fr h = 0 := by
    rcases hj with rfl | ⟨rfl, _⟩
    ·omega
    ·omega
   exact leadsK_M (s := mv1 1 j') (rng_ok mvW_ok.1 j' (by omega)) hst (by omega) hI t (by rw [← hst]; exact hrow) fr h hj0
 by_cases hk : z = 1 ∧ x < B
 ·obtain ⟨rfl, hlt⟩ := hk
  obtain ⟨hlen, D, hD⟩ := hr rfl
  have hB := hB rfl
  have hxl : x.toNat < (E.s 1).len := by omega
  obtain ⟨d0, d1⟩ := hD.c x.toNat hxl
  obtain ⟨c, k, tv, kp, f', hall⟩ := rnd_ex h hl d1
  obtain ⟨E', t, e11, e12, es1, eL, e100, e13, ev, er⟩ := key (fun i => if i = 13 then D x.toNat else if i = 300 then tv else (kp : Nat)) (fun _ => rowF 2048 f')
  have hR := hall E' (e13.trans rfl) ((ev 300 (by omega) (by omega)).trans rfl) ((ev 310 (by omega) (by omega)).trans rfl) eL e100 (by rw [er 101 (by omega) (by omega)]; exact rowF_is _ _)
  refine fin (2 * n + 1) E' (.inr ⟨rfl, rfl⟩) ⟨fun _ => ⟨by rw [e11, es1]; exact hlen, D, by rw [es1]; exact ⟨hD.esz, hD.c⟩⟩, fun _ => by rw [e11]; exact hB, by omega, by omega, n, h8, fun h => by omega, .inl ⟨rfl, rfl, by omega, c, k, hR⟩⟩ t ?_
  have := rng_ok st1_rows.1 n (by omega)
  simp only [Bool.and_eq_true] at this
  refine rowsB1_ok this.1 (by rw [e12, es1]; show x = ((x.toNat : Nat) : Int); omega) ?_
  rw [es1, e13]
  exact ⟨hxl, d0⟩
 ·obtain ⟨E', t, e11, e12, es1, eL, e100, e13, ev, er⟩ := key (fun _ => 0) (fun _ => rowF 2048 f)
  refine fin (2 * n) E' (.inl rfl) ⟨fun h => ?_, fun h => by rw [e11]; exact hB h, by omega, by omega, n, h8, hz0, .inr ⟨rfl, fun h => ?_, f, L, Q, h, hl, eL, e100⟩⟩ t ?_
  ·obtain ⟨hlen, D, hD⟩ := hr h
   exact ⟨by rw [e11, es1]; exact hlen, D, by rw [es1]; exact ⟨hD.esz, hD.c⟩⟩
  ·have := hB h
   rw [e11, e12]; omega
  ·rcases hz with rfl | rfl
   ·have : n = 0 := hz0 rfl
    subst this
    exact rowU_ok st1_rows.2
   ·have := rng_ok st1_rows.1 n (by omega)
    simp only [Bool.and_eq_true] at this
    exact rowU_ok this.2
theorem made_L {pr : Nat → Int} (hpr : ∀ i, 0 ≤ pr i ∧ pr i < 256) : OkL (madeF pr 8) [] (fun _ => []) := by
 obtain ⟨g1, g2⟩ := made_q pr hpr
 refine ⟨g1, List.nodup_nil, fun t => ⟨fun h => (by cases h), fun ⟨h1, h2⟩ => ?_⟩, fun p hp => rfl⟩
 exfalso
 have : ∃ i, i < 8 ∧ t = tcM i := by
  unfold TT at h1
  exact ⟨(t - 1024) / 64, by omega, by unfold tcM; omega⟩
 obtain ⟨i, hi, rfl⟩ := this
 rw [g2 i hi] at h2
 cases h2
theorem goW_ok {c n k : Nat} (hn : n ≤ 8) (h : (c = 1 ∧ n < 8 ∧ k = 0) ∨ ((c = 2 ∨ c = 3 ∨ c = 5 ∨ c = 6) ∧ k = 0) ∨ (c = 4 ∧ k < n)) : goW c n k = 0 := by
 rcases h with ⟨rfl, h1, rfl⟩ | ⟨h1, rfl⟩ | ⟨rfl, h1⟩
 ·exact Nat.eq_of_beq_eq_true (rng_ok goW1_ok n h1)
 ·exact Nat.eq_of_beq_eq_true (allB_ok (rng_ok goW2_ok n (by omega)) c (by rcases h1 with rfl | rfl | rfl | rfl <;> simp))
 ·exact Nat.eq_of_beq_eq_true (rng_ok (rng_ok goW4_ok n (by omega)) k h1)
theorem toW_le {c n k : Nat} (hn : n ≤ 8) (h : (c = 1 ∧ n < 8 ∧ k = 0) ∨ ((c = 2 ∨ c = 3 ∨ c = 5 ∨ c = 6) ∧ k = 0) ∨ (c = 4 ∧ k < n)) : toW c n ≤ 8 := by
 rcases h with ⟨rfl, h1, rfl⟩ | ⟨h1, rfl⟩ | ⟨rfl, h1⟩
 ·exact h1
 ·rcases h1 with rfl | rfl | rfl | rfl <;> exact hn
 ·exact Nat.le_trans (Nat.pred_le n) hn
theorem order_any {b : Bool} {z : Nat} (hz : z = 0 ∨ z = 1) {r0 r1 : Row} {D0 D1 : Nat → Int} (h0 : b = false → RowI r0 D0) (h1 : z = 1 → RowI r1 D1) {W : World} (w0 : b = false → W.heap[r0.b]? = some (.cells r0.cs r0.t r0.fz)) (w1 : z = 1 → W.heap[r1.b]? = some (.cells r1.cs r1.t r1.fz)) :
  Calls PP 3 #[v0 b r0, v0 (Nat.beq z 0) r1] W fun e w' => e = .returned (.bool true) ∧ RowKit.Below W.heap.size W w' := by
 obtain ⟨E, hE⟩ : ∃ E : Env, E = ⟨fun i => if i = 1 then r0.len else if i = 11 then r1.len else if i = 100100 then 100 else if i = 100200 then 200 else 160, fun _ => false, fun q => if q = 0 then r0 else if q = 1 then r1 else if q = 100 ∨ q = 200 then rowF 2048 (madeW b r0 D0 8) else rowF 2048 (fun _ => 0)⟩ := ⟨_, rfl⟩
 have s0 : E.s 0 = r0 := by rw [hE]; rfl
 have s1 : E.s 1 = r1 := by rw [hE]; rfl
 have i1 : E.i 1 = r0.len := by rw [hE]; rfl
 have i11 : E.i 11 = r1.len := by rw [hE]; rfl
 have s100 : E.s 100 = rowF 2048 (madeW b r0 D0 8) := by rw [hE]; rfl
 have hME : MadeE b D0 E := ⟨by rw [hE]; rfl, by rw [hE]; rfl, by rw [s100, s0]; rfl, by rw [s0, hE]; rfl, by rw [hE]; rfl, by rw [hE]; rfl, by rw [hE]; rfl, by rw [hE]; rfl, by rw [s0]; exact h0⟩
 have hsat : Sat E (rho2 r0 r1) (hM0 false b z) W := by
  have := hM0_sat (E := E) (b := b) (z := z) (W := W) (by omega) (by rw [s0]; exact fun hb => ⟨w0 hb, (h0 hb).esz, i1⟩) (by rw [s1]; exact fun h => ⟨w1 (by omega), by have := (h1 (by omega)).esz; omega, i11⟩)
  rw [s0, s1] at this; exact this
 have hbd : bdL 3 [a0 b, a1 z] := by
  refine ⟨?_, ?_, trivial⟩
  ·cases b with
   | true => exact trivial
   | false => exact (by show 1 < 3; omega)
  ·rcases hz with rfl | rfl
   ·exact trivial
   ·exact (by show 2 < 3; omega)
 have hargs : (γL E (rho2 r0 r1) [a0 b, a1 z]).toArray = #[v0 b r0, v0 (Nat.beq z 0) r1] := by
  have e0 : (a0 b).γ E (rho2 r0 r1) = v0 b r0 := by
   cases b with
   | true => rfl
   | false => show Value.slice _ _ _ = Value.slice _ _ _; rw [s0]
  have e1 : (a1 z).γ E (rho2 r0 r1) = v0 (Nat.beq z 0) r1 := by
   rcases hz with rfl | rfl
   ·rfl
   ·show Value.slice _ _ _ = Value.slice _ _ _; rw [s1]
  simp only [γL, e0, e1]
 rw [← hargs]
 by_cases hb0 : b = false ∧ 2147483647 < r0.len
 ·obtain ⟨rfl, hb0⟩ := hb0
  refine big_run (fs := fL0) ?_ ⟨f_gt (show (2147483647 : Int) < E.i 1 by rw [i1]; omega), trivial⟩ hbd hsat
  rcases hz with rfl | rfl
  ·exact bigW_ok.1.1
  ·exact bigW_ok.1.2
 by_cases hb1 : z = 1 ∧ 2147483647 < r1.len
 ·obtain ⟨rfl, hb1⟩ := hb1
  refine big_run (fs := fL1 b) ?_ ?_ hbd hsat
  ·cases b with
   | false => exact bigW_ok.2.1
   | true => exact bigW_ok.2.2
  ·cases b with
   | false => exact ⟨f_gtn (show E.i 1 ≤ 2147483647 by rw [i1]; have : ¬ 2147483647 < r0.len := fun h => hb0 ⟨rfl, h⟩; omega), f_gt (show (2147483647 : Int) < E.i 11 by rw [i11]; omega), trivial⟩
   | true => exact ⟨f_gt (show (2147483647 : Int) < E.i 11 by rw [i11]; omega), trivial⟩
 have hzo : zOk false b z = true := by
  have := allB_ok z_ok b (b_mem b)
  simp only [Bool.and_eq_true] at this
  rcases hz with rfl | rfl
  ·exact this.1
  ·exact this.2.1
 have hf0 : OkL (madeW b r0 D0 8) [] (fun _ => []) := made_L (prD_lt _ _)
 have hfI : FsOk E (fI b z) := by
  refine fs_app ?_ ?_
  ·cases b with
   | true => exact trivial
   | false => exact ⟨f_gtn (show E.i 1 ≤ 2147483647 by rw [i1]; have : ¬ 2147483647 < r0.len := fun h => hb0 ⟨rfl, h⟩; omega), trivial⟩
  ·rcases hz with rfl | rfl
   ·exact trivial
   ·exact ⟨f_gtn (show E.i 11 ≤ 2147483647 by rw [i11]; have : ¬ 2147483647 < r1.len := fun h => hb1 ⟨rfl, h⟩; omega), trivial⟩
 obtain ⟨B, hBd⟩ : ∃ B : Int, B = if z = 1 then (r1.len : Int) else 0 := ⟨_, rfl⟩
 have hB1 : z = 1 → B = E.i 11 := fun h => by rw [hBd, if_pos h, i11]
 have hB0 : 0 ≤ B := by rw [hBd]; split <;> omega
 have hBs : B ≤ 2147483647 := by
  rw [hBd]; split
  ·rename_i h
   have : ¬ 2147483647 < r1.len := fun h' => hb1 ⟨h, h'⟩
   omega
  ·omega
 have hin := allB_ok inW_ok b (b_mem b)
 simp only [Bool.and_eq_true] at hin
 refine cut4_law tyOk_tyOf mixedX Try.func3 qco w3 (st := st1 z) (st2 := st2) (Inv := InvW1 z B) (Inv2 := InvW2) (fun m n E' hI => ?_) (fun m j E' hI => ?_) (E := E) (g0 := gIn b z) (callAx_ok (made_ok hzo hME (callT_run (hC0 E) 20))) (fa := ⟨fI b z, []⟩) (fa_list (l := fI b z) hfI trivial) (nk := nk1 z 0 sgW0) (B.toNat + 1) ?_ ?_ hsat hbd hM0_new
 ·by_cases hn : n = 0
  ·subst hn
   exact ⟨⟨[], []⟩, fun _ _ => 1, gZ, callT_run (cxM_ok (hC0 E') (hI.z rfl) (ps_list (l := []) trivial)) 20, FaOk.nil, endW_ok, leadsK_none⟩
  ·obtain ⟨l, hR⟩ := hI.s (by omega)
   obtain ⟨f', L', Q', o1, o2, o3, o4⟩ := hR.w
   refine ⟨⟨fsS n l, []⟩, _, _, callT_run (cxM_ok (hC0 E') hR.e (ps_list (l := []) trivial)) 20, fa_list (l := fsS n l) hR.fs trivial, goS_ok (by omega) hI.n8 hR.mem, ?_⟩
   have hm := hI.m
   have h8 := hI.n8
   have cutS : ∀ i, i ≠ 5 → i ≠ 100100 → i < 400 ∨ 400 + Nat.pred n ≤ i → sgS n (bestW l (Nat.pred n)) i = none := fun i a1 a2 a3 => sgX_no (fun p hp => by
    simp only [List.mem_cons, List.not_mem_nil, or_false] at hp
    rcases hp with rfl | rfl
    ·exact a1
    ·exact a2) a3
   have hpn : Nat.pred n = n - 1 := rfl
   exact lead2W (n := n - 1) (q := 103 + n) o1 o2 (by omega) o3 (σ := sgS n (bestW l (Nat.pred n))) rfl (fun i hi => ⟨_, sgX_el (fun p hp => by
    simp only [List.mem_cons, List.not_mem_nil, or_false] at hp
    rcases hp with rfl | rfl
    ·exact .inl (by show 5 < 400; omega)
    ·exact .inr (by show 100000 ≤ 100100; omega)) (by omega) (by omega), o4 i hi⟩) (fun i h1 h2 => cutS i (by omega) (by omega) (by omega)) (fun q h1 h2 => cutS _ (by omega) (by omega) (by omega)) (by omega)
 ·obtain ⟨n, hn8, hnz, hc⟩ := hI.c
  rcases hc with ⟨rfl, rfl, hlt, c, k, hR⟩ | ⟨rfl, e3, f', L', Q', o1, o2, o3, o4⟩
  ·obtain ⟨hlen, D, hD⟩ := hI.r rfl
   obtain ⟨f', L', Q', o1, o2, o3, o4⟩ := hR.w
   have hm := hI.m
   have h0 := hI.i0
   have hb := hI.b rfl
   refine ⟨⟨(.cmp .lss (.v 12) (.v 11), true) :: fsW c n k, []⟩, _, fun _ _ => 1, 0, gW c, callT_run (cxM_ok (hC0 E') hR.p (ps_list hR.ps)) 20, fa_list (l := _ :: fsW c n k) ⟨f_lt hlt, hR.fs⟩ trivial, goW_ok hn8 hR.ok, ?_, leadsK_none⟩
   have cutS : ∀ i, i ≠ 11 → i ≠ 12 → i ≠ 5 → i ≠ 100100 → i < 400 ∨ 400 + toW c n ≤ i → sgW c n k i = none := fun i a1 a2 a3 a4 a5 => sgX_no (fun p hp => by
    simp only [List.mem_cons, List.not_mem_nil, or_false] at hp
    rcases hp with rfl | rfl | rfl | rfl <;> assumption) a5
   have ht8 := toW_le hn8 hR.ok
   exact lead1W (E := E') (z := 1) (n := toW c n) (m := m) (q := rowW c) (B := B) (x := E'.i 12 + 1) (.inr rfl) o1 o2 ht8 (fun h => by omega) o3 (σ := sgW c n k) rfl (s12 := .op .add .i64 (.v 12) (.lit 1)) rfl (by
    show wrapF .i64 (E'.i 12 + 1) = _
    rw [wrapF_eq, IntKind.wrap_i64]; omega) rfl (fun i hi => ⟨_, sgX_el (fun p hp => by
    simp only [List.mem_cons, List.not_mem_nil, or_false] at hp
    rcases hp with rfl | rfl | rfl | rfl
    ·exact .inl (by show 11 < 400; omega)
    ·exact .inl (by show 12 < 400; omega)
    ·exact .inl (by show 5 < 400; omega)
    ·exact .inr (by show 100000 ≤ 100100; omega)) hi (by omega), o4 i hi⟩) (cutS 13 (by omega) (by omega) (by omega) (by omega) (.inl (by omega))) (fun i h1 h2 => cutS i (by omega) (by omega) (by omega) (by omega) (.inl h2)) (fun q h1 h2 => cutS _ (by omega) (by omega) (by omega) (by omega) (.inr (by omega))) (fun _ => ⟨hlen, D, hD⟩) (by omega) hI.b (by omega) (by omega)
  ·refine ⟨⟨fEw z, []⟩, fun _ _ => 1, _, n + 1, g0W, callT_run (hC0 E') 20, fa_list (l := fEw z) ⟨?_, trivial⟩ trivial, (?_ : outW z n = 0), leadsK_none, ?_⟩
   ·rcases hz with rfl | rfl
    ·exact f_ltn (show 0 ≤ E'.i 12 from hI.i0)
    ·exact f_ltn (show E'.i 11 ≤ E'.i 12 by have := e3 rfl; omega)
   ·rcases hz with rfl | rfl
    ·rw [hnz rfl]; exact outW_ok.1
    ·exact Nat.eq_of_beq_eq_true (rng_ok outW_ok.2 n (by omega))
   ·have cutS : ∀ i, i ≠ 5 → i ≠ 100100 → i < 400 ∨ 400 + n ≤ i → sgWo n i = none := fun i a1 a2 a3 => sgX_no (fun p hp => by
     simp only [List.mem_cons, List.not_mem_nil, or_false] at hp
     rcases hp with rfl | rfl
     ·exact a1
     ·exact a2) a3
    exact lead2W (n := n) (q := 100) o1 o2 hn8 o4 (σ := sgWo n) rfl (fun i hi => ⟨_, sgX_el (fun p hp => by
     simp only [List.mem_cons, List.not_mem_nil, or_false] at hp
     rcases hp with rfl | rfl
     ·exact .inl (by show 5 < 400; omega)
     ·exact .inr (by show 100000 ≤ 100100; omega)) hi (by omega), o3 i (by omega)⟩) (fun i h1 h2 => cutS i (by omega) (by omega) (by omega)) (fun q h1 h2 => cutS _ (by omega) (by omega) (by omega)) (by omega)
 ·exact lead1W (E := E) (z := z) (n := 0) (q := 100) (m := B.toNat + 1) (B := B) (x := 0) hz hf0 rfl (by omega) (fun _ => rfl) (by rw [s100]; exact rowF_is _ _) (σ := sgW0) rfl (s12 := .lit 0) rfl rfl rfl (fun i hi => by omega) rfl (fun i h1 h2 => sgL_cut fun p hp => (by
   simp only [List.mem_cons, List.not_mem_nil, or_false] at hp
   rcases hp with rfl | rfl | rfl | rfl
   ·show i ≠ 11; omega
   ·show i ≠ 12; omega
   ·show i ≠ 5; omega
   ·show i ≠ 100100; omega)) (fun q h1 h2 => sgL_cut fun p hp => (by
   simp only [List.mem_cons, List.not_mem_nil, or_false] at hp
   rcases hp with rfl | rfl | rfl | rfl
   ·show 100000 + q ≠ 11; omega
   ·show 100000 + q ≠ 12; omega
   ·show 100000 + q ≠ 5; omega
   ·show 100000 + q ≠ 100100; omega)) (fun h => ⟨by rw [i11, s1], D1, by rw [s1]; exact h1 h⟩) (Int.le_refl 0) hB1 hB0 (by omega)
 ·rcases hz with rfl | rfl
  ·exact Nat.eq_of_beq_eq_true hin.1
  ·exact Nat.eq_of_beq_eq_true hin.2
end Go.Ev.X
end
