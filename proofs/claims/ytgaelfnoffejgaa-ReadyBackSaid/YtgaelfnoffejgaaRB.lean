/-
 ReadyBack: the law.
-/
import Derived.Test.YtgaelfnoffejgaaRG
import Derived.Test.YtgaelfnoffejgaaBQ
import Derived.Test.YtgaelfnoffejgaaCL
import Derived.Test.YtgaelfnoffejgaaSM20
set_option linter.unusedSimpArgs false
set_option linter.unusedVariables false
set_option maxRecDepth 100000
noncomputable section
namespace Go.Ev.X
open Go Go.Ev Go.Proofs
variable {E : Env} {f f' : Nat → Int} {Q : Nat → List Nat} {t : Nat}
theorem frontFull_run : runX cx0 cP [⟨13, [.si .i64 (.v 1)], 1, .tup [tD 100, .i .i64 0], .v 9000⟩] [] 21 [.si .i64 (.v 1)] ⟨[(.cmp .eql (.v 103) (.lit 1), true)], []⟩ (.i .i64 120) 1 s1 = 0 := by decide +kernel
theorem frontFull_p (h : QInv TT f Q) (ht : TT t) (hq : (getT f t).q = true) : MemE PP cP 21 [.int .i64 t] f (.int .i64 120) f :=
 ⟨0 + 20, by omega, memC_x hC0 (by decide) frontFull_run rfl (fullVs f t) (fun _ => f) fun st => ⟨stp_add (k := 0) (m := 20) rfl rfl (by omega), fa_list ⟨(sbq rfl).trans hq, trivial⟩ trivial,
  ⟨ent_y (k := 20) (thr_p ht (h.thr t ht)) (by omega) rfl (fun ρ => rfl) (fun ρ => tupT (thG rfl rfl rfl (vsb (sbq rfl)) rfl rfl rfl rfl (vsb (sbq rfl)) (vsb (sbq rfl)) rfl rfl rfl rfl rfl rfl rfl rfl rfl rfl rfl rfl rfl rfl rfl rfl rfl rfl rfl rfl)), trivial⟩, ps_list trivial, fun ρ => rfl, fun ρ => rfl⟩⟩
theorem mid_eq {t : Nat} : ∀ {a b L M : List Nat}, (a ++ t :: b).Nodup → a ++ t :: b = L ++ t :: M → a ++ b = L ++ M
 | [], b, [], M, _, h => by simpa using h
 | [], b, y :: L, M, hn, h => by
  simp at h
  obtain ⟨rfl, rfl⟩ := h
  simp at hn
 | x :: a, b, [], M, hn, h => by
  simp at h
  obtain ⟨rfl, h⟩ := h
  simp at hn
 | x :: a, b, y :: L, M, hn, h => by
  simp only [List.cons_append, List.cons.injEq] at h
  obtain ⟨rfl, h⟩ := h
  have := mid_eq (List.nodup_cons.1 hn).2 h
  simp only [List.cons_append, this]
theorem setP_back {p : Nat} {x y : List Nat} (h : y = Q p) : setP (setP Q p x) p y = Q := funext fun i => by
 by_cases e : i = p
 ·subst e; rw [setP_same, h]
 ·rw [setP_other _ _ e, setP_other _ _ e]
theorem back_eq (h : QInv TT f Q) (ht : TT t) (hq : (getT f t).q = false) (fr : Bool) :
  OkQ (bif fr then pushFrontF f t else pushF f t) ∧ MemE PP cP (fnB fr) [.int .i64 t] f (.int .i64 0) (bif fr then pushFrontF f t else pushF f t) ∧ MemE PP cP 12 [.int .i64 t] (bif fr then pushFrontF f t else pushF f t) (.int .i64 0) f := by
 obtain ⟨hp, hpe⟩ := pr_nat h ht
 have key : ∀ (f1 : Nat → Int) (L M : List Nat), L ++ M = Q (getT f t).pr.toNat → QInv TT f1 (setP Q (getT f t).pr.toNat (L ++ t :: M)) → (∀ u, TT u → ∃ pv nx, getT f1 u = { getT f u with q := decide (u = t) || (getT f u).q, pv := pv, nx := nx }) → (∀ i, Out i → f1 i = f i) → dropF f1 t = f ∧ MemE PP cP 12 [.int .i64 t] f1 (.int .i64 0) (dropF f1 t) := by
  intro f1 L M hLM q1 g2 go
  obtain ⟨pv, nx, e⟩ := g2 t ht
  have hq1 : (getT f1 t).q = true := by rw [e]; simp
  have hpr : (getT f1 t).pr = (getT f t).pr := by rw [e]
  obtain ⟨⟨a, b, hab, d1⟩, d2, d3⟩ := drop_g TT_thr q1 ht hq1
  rw [hpr, setP_same] at hab
  have hnd := q1.nd _ hp
  rw [setP_same] at hnd
  rw [hpr, setP_back (by rw [mid_eq (by rw [← hab]; exact hnd) hab.symm, hLM])] at d1
  refine ⟨words_ext h d1 (fun u hu => ?_) fun i ho => ?_, drop_cp q1 ht hq1⟩
  ·obtain ⟨pv', nx', e'⟩ := d2 u hu
   obtain ⟨pv2, nx2, e2⟩ := g2 u hu
   rw [e', e2]; rfl
  ·rw [drop_out q1 ht hq1 ho]; exact go i ho
 cases fr with
 | false =>
  obtain ⟨g1, g2, _⟩ := push_g TT_thr h ht hq
  obtain ⟨k1, k2⟩ := key (pushF f t) (Q (getT f t).pr.toNat) [] (by simp) g1 g2 fun i ho => push_out h ht ho
  rw [k1] at k2
  exact ⟨⟨_, g1⟩, push_cp h ht hq, k2⟩
 | true =>
  obtain ⟨g1, g2, _⟩ := pushFront_g TT_thr h ht hq
  obtain ⟨k1, k2⟩ := key (pushFrontF f t) [] (Q (getT f t).pr.toNat) (by simp) g1 g2 fun i ho => front_out h ht ho
  rw [k1] at k2
  exact ⟨⟨_, g1⟩, front_cp h ht hq, k2⟩
theorem comes (hf : OkQ f) {x : Int} (hx : I64 x) (fr : Bool) : ∃ (c k : Nat) (tv : Int) (f' : Nat → Int), c < 3 ∧ OkQ f' ∧ (c = 2 → f' = f) ∧ (c = 1 → f' = f) ∧ (c ≠ 2 → tcI x = tv) ∧ (c = 2 → tcI x = 1056) ∧ 1 ≤ k ∧ (c ≠ 2 → MemC PP cP (fnB fr) [.int .i64 tv] f (.int .i64 (if c = 0 then 0 else 120)) f' k) ∧ (c = 0 → MemE PP cP 12 [.int .i64 tv] f' (.int .i64 0) f) := by
 obtain ⟨Q, h⟩ := hf
 by_cases h8 : x % 9 = 8
 ·exact ⟨2, 1, 0, f, by omega, ⟨Q, h⟩, fun _ => rfl, fun h => by omega, fun h => absurd rfl h, fun _ => if_pos h8, by omega, fun h => absurd rfl h, fun h => by omega⟩
 ·have ht : TT (tcM (x % 9).toNat) := tcM_tt (by omega)
  have htc : tcI x = (tcM (x % 9).toNat : Nat) := by unfold tcI tcM; rw [if_neg h8]; omega
  cases hq : (getT f (tcM (x % 9).toNat)).q with
  | false =>
   obtain ⟨b1, ⟨k, kp, b2⟩, b3⟩ := back_eq h ht hq fr
   exact ⟨0, k, _, _, by omega, b1, fun h => by omega, fun h => by omega, fun _ => htc, fun h => by omega, kp, fun _ => b2, fun _ => b3⟩
  | true =>
   have hc : MemE PP cP (fnB fr) [.int .i64 (tcM (x % 9).toNat : Nat)] f (.int .i64 120) f := by
    cases fr with
    | false => exact full_p h ht hq
    | true => exact frontFull_p h ht hq
   obtain ⟨k, kp, b2⟩ := hc
   exact ⟨1, k, _, f, by omega, ⟨Q, h⟩, fun _ => rfl, fun _ => rfl, fun _ => htc, fun h => by omega, kp, fun _ => b2, fun h => by omega⟩
theorem evB_ok {fr : Bool} {c k i kk : Nat} {tv : Int} (hc3 : c < 3) (h1 : 1 ≤ k) (hc : c ≠ 2 → MemC PP cP (fnB fr) [.int .i64 tv] f (.int .i64 (if c = 0 then 0 else 120)) f' k) (hi : E.i i = tv) (hk : E.i kk = (k : Nat)) (w : WordsIs (E.s 100).cs 2048 f) (w' : WordsIs (E.s 101).cs 2048 f') : EntsOk PP cP E 100 (evB fr c i kk) := by
 have : c = 0 ∨ c = 1 ∨ c = 2 := by omega
 rcases this with rfl | rfl | rfl
 ·exact ⟨ent_g w w' (hc (by omega)) h1 hk (fun ρ => arg1 (vsi hi)) (fun ρ => rfl), trivial⟩
 ·exact ⟨ent_g w w' (hc (by omega)) h1 hk (fun ρ => arg1 (vsi hi)) (fun ρ => rfl), trivial⟩
 ·exact trivial
theorem pe2 {F : Nat} {x y : Int} {e : SE} {v : V} (hca : Callable PP F) (hx : e.den E = x) (hv : ∀ ρ, v.γ E ρ = .int .i64 y) (hbd : v.bd 0) (hc : ∀ W, Calls PP F #[.int .i64 x] W fun e w' => e = .returned (.int .i64 y) ∧ RowKit.Below W.heap.size W w') : PEntOk PP E ⟨F, [.si .i64 e], v⟩ :=
 ⟨hbd, hca, fun ρ w => by
  have hargs : (γL E ρ [.si .i64 e]).toArray = #[.int .i64 x] := by simp only [γL, V.γ, hx]
  rw [hargs]
  refine (hc w).mono ?_
  rintro e w' ⟨rfl, hb⟩
  exact ⟨by rw [hv ρ], hb⟩⟩
theorem atB_ok {i c : Nat} {x tv : Int} {e : SE} (hx : I64 x) (he : e.den E = x) (hi : E.i i = tv) (h1 : c ≠ 2 → tcI x = tv) (h2 : c = 2 → tcI x = 1056) : PsOk PP E [⟨10, [.si .i64 e], atB i c⟩] := by
 refine ⟨pe2 Try.call10 he (y := tcI x) (fun ρ => ?_) ?_ fun W => tcb_c hx W, trivial⟩
 ·unfold atB
  by_cases hc : c = 2
  ·rw [show Nat.beq c 2 = true by simpa using hc, h2 hc]; rfl
  ·rw [show Nat.beq c 2 = false by rw [Bool.eq_false_iff]; simpa using hc, h1 hc]; exact vsi hi
 ·unfold atB
  cases Nat.beq c 2 <;> exact trivial
theorem quo_I {x : Int} (hx : I64 x) : I64 (x.tdiv 2) := by
 unfold I64 at hx ⊢
 by_cases h : 0 ≤ x
 ·rw [Int.tdiv_eq_ediv_of_nonneg h]; omega
 ·have : x.tdiv 2 = -((-x).tdiv 2) := by rw [Int.neg_tdiv, Int.neg_neg]
  rw [this, Int.tdiv_eq_ediv_of_nonneg (by omega)]; omega
theorem hB_rows : (allB (fun j => rowsB1 (hB 1 j)) (rng 7) = true) ∧ allB (fun n => rowU (hB 1 (7 + n)) && rowU (hB 0 (7 + n))) (rng 6) = true := by decide +kernel
def EOb (e : Nat) (E : Env) : Prop := EntsOk PP cP E 100 (esB e) ∧ PsOk PP E (psBe e) ∧ ∃ f, WordsIs (E.s 100).cs 2048 f ∧ WordsIs (E.s (lastB e)).cs 2048 f
structure InvB (z : Nat) (a B : Int) (fr : Bool) (m j : Nat) (E : Env) : Prop where
 i20 : E.i 20 = a
 eb : E.b 0 = fr
 r : z = 1 → E.i 11 = (E.s 1).len ∧ ∃ D, RowI (E.s 1) D
 b : z = 1 → B = E.i 11
 i0 : 0 ≤ E.i 12
 m : (m : Int) + E.i 12 = B
 c : (z = 1 ∧ 1 ≤ j ∧ j ≤ 6 ∧ FsOk E (fB1 j) ∧ E.i 12 < E.i 11 ∧ EntsOk PP cP E 100 (evB (oddB j) (cB j) 300 310) ∧ PsOk PP E (psB j) ∧ (cB j ≠ 2 → E.i 310 = E.i 310) ∧ ∃ f', OkQ f' ∧ WordsIs (E.s (rowB (cB j))).cs 2048 f') ∨ (7 ≤ j ∧ j < 13 ∧ EOb (j - 7) E ∧ E.b 0 = fronE (j - 7) ∧ (z = 1 → ¬ E.i 12 < E.i 11) ∧ (z = 0 → E.i 12 = 0))
theorem mem_nxB {σ : Sg} {j : Nat} (h1 : 1 ≤ j) (h2 : j < 13) : (j, σ) ∈ nxB σ := by
 unfold nxB
 refine List.mem_map.2 ⟨j - 1, mem_rngF (by omega) (by omega), ?_⟩
 rw [show j - 1 + 1 = j from by omega]
theorem mem_nxB0 {z : Nat} {σ : Sg} {j : Nat} (hz : z = 0 ∨ z = 1) (h : (z = 1 ∧ 1 ≤ j ∧ j < 13) ∨ (7 ≤ j ∧ j < 13)) : (j, σ) ∈ nxB0 z σ := by
 rcases hz with rfl | rfl
 ·have h : 7 ≤ j ∧ j < 13 := by omega
  show (j, σ) ∈ (rng 6).map fun j => (j + 7, σ)
  refine List.mem_map.2 ⟨j - 7, mem_rngF (by omega) (by omega), ?_⟩
  rw [show j - 7 + 7 = j from by omega]
 ·exact mem_nxB (by omega) (by omega)
theorem leadB {z q m : Nat} {a B x : Int} {fr : Bool} (hz : z = 0 ∨ z = 1) (ha : I64 a) (hf : OkQ f) {σ : Sg} (hq : WordsIs (E.s q).cs 2048 f) (g11 : σ 11 = some (.v 11)) {s12 : SE} (g12 : σ 12 = some s12) (hx : s12.den E = x) (g20 : σ 20 = some (.v 20)) (h20 : E.i 20 = a) (hb : E.b 0 = fr) (gp : σ 100100 = some (.lit (.ofNat q)))
  (n13 : σ 13 = none) (nf : ∀ i, 300 ≤ i → i < 100000 → σ i = none) (nr : ∀ q, 101 ≤ q → q < 200 → σ (100000 + q) = none) (hr : z = 1 → E.i 11 = (E.s 1).len ∧ ∃ D, RowI (E.s 1) D) (h0 : 0 ≤ x) (hB' : z = 1 → B = E.i 11) (hxB : x ≤ B) (h00 : z = 0 → x = 0) (hm : B - x < m) :
  ∃ j' m' E', ((z = 1 ∧ 1 ≤ j' ∧ j' < 13) ∨ (7 ≤ j' ∧ j' < 13)) ∧ m' < m ∧ InvB z a B fr m' j' E' ∧ TrE σ E E' ∧ ∀ p o, (stB z j').h.t.get p = some o → RowEl E' o := by
 have key : ∀ (vs : Nat → Int) (rows : Nat → Row), ∃ E', TrE σ E E' ∧ E'.i 11 = E.i 11 ∧ E'.i 12 = x ∧ E'.i 20 = a ∧ E'.b 0 = fr ∧ E'.s 1 = { E.s 1 with idx := x.toNat } ∧ WordsIs (E'.s 100).cs 2048 f ∧ E'.i 13 = vs 13 ∧ (∀ i, 300 ≤ i → i < 100000 → E'.i i = vs i) ∧ (∀ q, 101 ≤ q → q < 200 → E'.s q = rows q) := by
  intro vs rows
  have t := nxA_tr σ E x vs rows
  refine ⟨nxA σ E x vs rows, t, t.i 11 _ g11, (t.i 12 _ g12).trans hx, (t.i 20 _ g20).trans h20, hb, rfl, ?_, by simp [nxA, n13], fun i h1 h2 => by simp [nxA, nf i h1 h2], fun q h1 h2 => ?_⟩
  ·rw [nxA_s]
   unfold nxS
   rw [if_neg (by omega), show 100000 + 100 = 100100 from rfl, gp]; exact hq
  ·rw [nxA_s]
   unfold nxS
   rw [if_neg (by omega), nr q h1 h2]
 by_cases hk : z = 1 ∧ x < B
 ·obtain ⟨rfl, hlt⟩ := hk
  obtain ⟨hlen, D, hD⟩ := hr rfl
  have hB' := hB' rfl
  have hxl : x.toNat < (E.s 1).len := by omega
  obtain ⟨d0, d1⟩ := hD.c x.toNat hxl
  obtain ⟨c, k, tv, f', c3, hf', c2, c1, t1, t2, kp, hc, _⟩ := comes hf (quo_I d1) (decide ((D x.toNat).tmod 2 ≠ 0))
  obtain ⟨j, hj⟩ : ∃ j, j = (if (D x.toNat).tmod 2 ≠ 0 then 4 + c else 1 + c) := ⟨_, rfl⟩
  have hjb : 1 ≤ j ∧ j ≤ 6 := by rw [hj]; split <;> omega
  have hcj : cB j = c := by
   show (j - 1) % 3 = c
   rw [hj]; split <;> omega
  have hoj : oddB j = decide ((D x.toNat).tmod 2 ≠ 0) := by
   unfold oddB
   rw [hj]
   split
   ·rename_i h; rw [decide_eq_true h, Nat.ble_eq]; omega
   ·rename_i h; rw [decide_eq_false h, Bool.eq_false_iff, ne_eq, Nat.ble_eq]; omega
  obtain ⟨E', t, e11, e12, e20, eb, es1, e100, e13, ev, er⟩ := key (fun i => if i = 13 then D x.toNat else if i = 300 then tv else (k : Nat)) (fun _ => rowF 2048 f')
  have i13 : E'.i 13 = D x.toNat := e13.trans rfl
  have i300 : E'.i 300 = tv := (ev 300 (by omega) (by omega)).trans rfl
  have i310 : E'.i 310 = (k : Nat) := (ev 310 (by omega) (by omega)).trans rfl
  have w101 : WordsIs (E'.s 101).cs 2048 f' := by rw [er 101 (by omega) (by omega)]; exact rowF_is _ _
  refine ⟨j, (B - x).toNat, E', .inl ⟨rfl, by omega, by omega⟩, by omega, ⟨e20, eb, fun _ => ⟨by rw [e11, es1]; exact hlen, D, by rw [es1]; exact ⟨hD.esz, hD.c⟩⟩, fun _ => by rw [e11]; exact hB', by omega, by omega, .inl ⟨rfl, hjb.1, hjb.2, ?_, by omega, ?_, ?_, fun _ => rfl, f', hf', ?_⟩⟩, t, ?_⟩
  ·refine ⟨f_lt (show E'.i 12 < E'.i 11 by omega), ?_, trivial⟩
   show iEq ((E'.i 13).tmod 2) 0 = _
   rw [hoj, i13, iEq_eq]
   by_cases h : (D x.toNat).tmod 2 = 0
   ·rw [decide_eq_true h, decide_eq_false (not_not_intro h)]; rfl
   ·rw [decide_eq_false h, decide_eq_true h]; rfl
  ·rw [hcj, hoj]
   exact evB_ok c3 kp hc i300 i310 e100 w101
  ·unfold psB
   rw [hcj]
   refine atB_ok (quo_I d1) ?_ i300 t1 t2
   show wrapF .i64 ((E'.i 13).tdiv 2) = _
   have := quo_I d1
   unfold I64 at this
   rw [i13, wrapF_eq, IntKind.wrap_i64]; omega
  ·rw [hcj]
   unfold rowB
   by_cases h : c = 2
   ·rw [show Nat.beq c 2 = true by simpa using h, c2 h]; exact e100
   ·rw [show Nat.beq c 2 = false by rw [Bool.eq_false_iff]; simpa using h]; exact w101
  ·refine rowsB1_ok (rng_ok hB_rows.1 j (by omega)) (by rw [e12, es1]; show x = ((x.toNat : Nat) : Int); omega) ?_
   rw [es1, i13]
   exact ⟨hxl, d0⟩
 ·obtain ⟨c, k, tv, f', c3, hf', c2, c1, t1, t2, kp, hc, hd⟩ := comes hf ha fr
  obtain ⟨k2, kp2, hd2⟩ : ∃ k2, 1 ≤ k2 ∧ (c = 0 → MemC PP cP 12 [.int .i64 tv] f' (.int .i64 0) f k2) := by
   by_cases h : c = 0
   ·obtain ⟨k2, p2, h2⟩ := hd h
    exact ⟨k2, p2, fun _ => h2⟩
   ·exact ⟨1, by omega, fun h' => absurd h' h⟩
  obtain ⟨e, he⟩ : ∃ e, e = (if fr = true then 3 + c else c) := ⟨_, rfl⟩
  have he6 : e < 6 := by rw [he]; split <;> omega
  have hce : cE e = c := by
   show e % 3 = c
   rw [he]; split <;> omega
  have hfe : fronE e = fr := by
   unfold fronE
   rw [he]
   cases fr with
   | true => rw [if_pos rfl, Nat.ble_eq]; omega
   | false => rw [if_neg (by simp), Bool.eq_false_iff, ne_eq, Nat.ble_eq]; omega
  obtain ⟨E', t, e11, e12, e20, eb, es1, e100, e13, ev, er⟩ := key (fun i => if i = 301 then tv else if i = 320 then (k : Nat) else (k2 : Nat)) (fun q => if q = 101 then rowF 2048 f' else rowF 2048 f)
  have i301 : E'.i 301 = tv := (ev 301 (by omega) (by omega)).trans rfl
  have i320 : E'.i 320 = (k : Nat) := (ev 320 (by omega) (by omega)).trans rfl
  have i321 : E'.i 321 = (k2 : Nat) := (ev 321 (by omega) (by omega)).trans rfl
  have w101 : WordsIs (E'.s 101).cs 2048 f' := by rw [er 101 (by omega) (by omega)]; exact rowF_is _ _
  have w102 : WordsIs (E'.s 102).cs 2048 f := by rw [er 102 (by omega) (by omega)]; exact rowF_is _ _
  have hev := evB_ok (E := E') c3 kp hc i301 i320 e100 w101
  refine ⟨7 + e, (B - x).toNat, E', .inr ⟨by omega, by omega⟩, by omega, ⟨e20, eb, fun h => ?_, fun h => by rw [e11]; exact hB' h, by omega, by omega, .inr ⟨by omega, by omega, ?_, ?_, fun h => ?_, fun h => by rw [e12]; exact h00 h⟩⟩, t, ?_⟩
  ·obtain ⟨hlen, D, hD⟩ := hr h
   exact ⟨by rw [e11, es1]; exact hlen, D, by rw [es1]; exact ⟨hD.esz, hD.c⟩⟩
  ·rw [show 7 + e - 7 = e from by omega]
   refine ⟨?_, ?_, f, e100, ?_⟩
   ·unfold esB
    rw [hce, hfe]
    refine ents_app hev ?_
    by_cases h : c = 0
    ·subst h
     exact ⟨ent_g w101 w102 (hd2 rfl) kp2 i321 (fun ρ => arg1 (vsi i301)) (fun ρ => rfl), trivial⟩
    ·rw [show Nat.beq c 0 = false by rw [Bool.eq_false_iff]; simpa using h]; exact trivial
   ·unfold psBe
    rw [hce]
    exact atB_ok ha e20 i301 t1 t2
   ·unfold lastB
    rw [hce]
    have : c = 0 ∨ c = 1 ∨ c = 2 := by omega
    rcases this with rfl | rfl | rfl
    ·exact w102
    ·have h := w101
     rw [c1 rfl] at h; exact h
    ·exact e100
  ·rw [show 7 + e - 7 = e from by omega, hfe]; exact eb
  ·have := hB' h
   rw [e11, e12]; omega
  ·have := rng_ok hB_rows.2 e he6
   simp only [Bool.and_eq_true] at this
   rcases hz with rfl | rfl
   ·exact rowU_ok this.2
   ·exact rowU_ok this.1
theorem sgB_cut {j i : Nat} (a1 : i ≠ 11) (a2 : i ≠ 12) (a3 : i ≠ 5) (a4 : i ≠ 20) (a5 : i ≠ 100100) : sgB j i = none ∧ sgB0 i = none := by
 constructor <;> refine sgL_cut fun p hp => ?_ <;> simp only [List.mem_cons, List.not_mem_nil, or_false] at hp <;> rcases hp with rfl | rfl | rfl | rfl | rfl <;> assumption
theorem cxBe_ok {e : Nat} (h : EOb e E) : CxOk E PP (tyOf PP) (cxBe e) := by
 obtain ⟨h1, h2, f', h4, h5⟩ := h
 refine cxW_ok (cxM_ok (hC0 E) h1 (ps_list h2)) (cloneK_ok (by omega) Try.call44 (fun b off n c zs w hz hb hc => clone_c b off n c zs w hz hb hc) fun q hq => ⟨f', ?_⟩) (alikeK_ok (by omega) Try.call20 @same20 fun q q' hq => ⟨f', ?_⟩)
 ·have : q = 100 ∨ q = lastB e := by simpa using hq
  rcases this with rfl | rfl
  ·exact h4
  ·exact h5
 ·have : q = 100 ∧ q' = lastB e := by simpa using hq
  rw [this.1, this.2]; exact ⟨h4, h5⟩
theorem back_any {b fr : Bool} {z : Nat} (hz : z = 0 ∨ z = 1) {r0 r1 : Row} {D0 D1 : Nat → Int} (h0 : b = false → RowI r0 D0) (h1 : z = 1 → RowI r1 D1) {a : Int} (ha : I64 a) {W : World} (w0 : b = false → W.heap[r0.b]? = some (.cells r0.cs r0.t r0.fz)) (w1 : z = 1 → W.heap[r1.b]? = some (.cells r1.cs r1.t r1.fz)) :
  Calls PP 5 #[.agg #[v0 b r0, v0 (Nat.beq z 0) r1, .int .i64 a, .bool fr]] W fun e w' => e = .returned (.bool true) ∧ RowKit.Below W.heap.size W w' := by
 obtain ⟨E, hE⟩ : ∃ E : Env, E = ⟨fun i => if i = 20 then a else if i = 1 then r0.len else if i = 11 then r1.len else if i = 100100 then 100 else if i = 100200 then 200 else 160, fun _ => fr, fun q => if q = 0 then r0 else if q = 1 then r1 else if q = 100 ∨ q = 200 then rowF 2048 (madeW b r0 D0 8) else rowF 2048 (fun _ => 0)⟩ := ⟨_, rfl⟩
 have s0 : E.s 0 = r0 := by rw [hE]; rfl
 have s1 : E.s 1 = r1 := by rw [hE]; rfl
 have i1 : E.i 1 = r0.len := by rw [hE]; rfl
 have i11 : E.i 11 = r1.len := by rw [hE]; rfl
 have i20 : E.i 20 = a := by rw [hE]; rfl
 have eb : E.b 0 = fr := by rw [hE]
 have s100 : E.s 100 = rowF 2048 (madeW b r0 D0 8) := by rw [hE]; rfl
 have hME : MadeE b D0 E := ⟨by rw [hE]; rfl, by rw [hE]; rfl, by rw [s100, s0]; rfl, by rw [s0, hE]; rfl, by rw [hE]; rfl, by rw [hE]; rfl, by rw [hE]; rfl, by rw [hE]; rfl, by rw [s0]; exact h0⟩
 have hsat : Sat E (rho2 r0 r1) (hM0 false b z) W := by
  have := hM0_sat (E := E) (b := b) (z := z) (W := W) (by omega) (by rw [s0]; exact fun hb => ⟨w0 hb, (h0 hb).esz, i1⟩) (by rw [s1]; exact fun h => ⟨w1 (by omega), by have := (h1 (by omega)).esz; omega, i11⟩)
  rw [s0, s1] at this; exact this
 have hbd : bdL 3 (argB b z) := by
  refine ⟨⟨?_, ?_, trivial, trivial, trivial⟩, trivial⟩
  ·cases b with
   | true => exact trivial
   | false => exact (by show 1 < 3; omega)
  ·rcases hz with rfl | rfl
   ·exact trivial
   ·exact (by show 2 < 3; omega)
 have hargs : (γL E (rho2 r0 r1) (argB b z)).toArray = #[.agg #[v0 b r0, v0 (Nat.beq z 0) r1, .int .i64 a, .bool fr]] := by
  have e0 : (a0 b).γ E (rho2 r0 r1) = v0 b r0 := by
   cases b with
   | true => rfl
   | false => show Value.slice _ _ _ = Value.slice _ _ _; rw [s0]
  have e1 : (a1 z).γ E (rho2 r0 r1) = v0 (Nat.beq z 0) r1 := by
   rcases hz with rfl | rfl
   ·rfl
   ·show Value.slice _ _ _ = Value.slice _ _ _; rw [s1]
  unfold argB
  simp only [γL, V.γ, e0, e1, SE.den, SB.den, i20, eb]
 rw [← hargs]
 by_cases hb0 : b = false ∧ 2147483647 < r0.len
 ·obtain ⟨rfl, hb0⟩ := hb0
  refine big_run (fs := fL0) ?_ ⟨f_gt (show (2147483647 : Int) < E.i 1 by rw [i1]; omega), trivial⟩ hbd hsat
  rcases hz with rfl | rfl
  ·exact bigB_ok.1.1
  ·exact bigB_ok.1.2
 by_cases hb1 : z = 1 ∧ 2147483647 < r1.len
 ·obtain ⟨rfl, hb1⟩ := hb1
  refine big_run (fs := fL1 b) ?_ ?_ hbd hsat
  ·cases b with
   | false => exact bigB_ok.2.1
   | true => exact bigB_ok.2.2
  ·cases b with
   | false => exact ⟨f_gtn (show E.i 1 ≤ 2147483647 by rw [i1]; have : ¬ 2147483647 < r0.len := fun h => hb0 ⟨rfl, h⟩; omega), f_gt (show (2147483647 : Int) < E.i 11 by rw [i11]; omega), trivial⟩
   | true => exact ⟨f_gt (show (2147483647 : Int) < E.i 11 by rw [i11]; omega), trivial⟩
 have hzo : zOk true b z = true := by
  have := allB_ok zx_ok b (b_mem b)
  simp only [Bool.and_eq_true] at this
  rcases hz with rfl | rfl
  ·exact this.1
  ·exact this.2
 have hf0 : OkQ (madeW b r0 D0 8) := ⟨_, (made_q _ (prD_lt _ _)).1⟩
 have hfI : FsOk E (fI b z) := by
  refine fs_app ?_ ?_
  ·cases b with
   | true => exact trivial
   | false => exact ⟨f_gtn (show E.i 1 ≤ 2147483647 by rw [i1]; have : ¬ 2147483647 < r0.len := fun h => hb0 ⟨rfl, h⟩; omega), trivial⟩
  ·rcases hz with rfl | rfl
   ·exact trivial
   ·exact ⟨f_gtn (show E.i 11 ≤ 2147483647 by rw [i11]; have : ¬ 2147483647 < r1.len := fun h => hb1 ⟨rfl, h⟩; omega), trivial⟩
 obtain ⟨B, hBd⟩ : ∃ B : Int, B = if z = 1 then (r1.len : Int) else 0 := ⟨_, rfl⟩
 have hB1 : z = 1 → B = E.i 11 := fun h => by rw [hBd, if_pos h, i11]
 have hB0 : 0 ≤ B := by rw [hBd]; split <;> omega
 have hBs : B ≤ 2147483647 := by
  rw [hBd]; split
  ·rename_i h
   have : ¬ 2147483647 < r1.len := fun h' => hb1 ⟨h, h'⟩
   omega
  ·omega
 have hin := allB_ok inB_ok b (b_mem b)
 simp only [Bool.and_eq_true] at hin
 refine cut_law tyOk_tyOf mixedX Try.func5 qcb w5 (st := stB z) (gj := fun j => bif Nat.ble j 6 then gB j else gBe (j - 7)) (Inv := InvB z a B fr) (fun m j E' h => ?_) (fun m j E' hI => ?_) (E := E) (g0 := ⟨inBc b z, 5, 20000⟩) (callAx_ok (made_ok hzo hME (callT_run (hC0 E) 20))) (fa := ⟨fI b z, []⟩) (fa_list (l := fI b z) (r := []) hfI trivial) (nx := nxB0 z sgB0) (B.toNat + 1) ?_ ?_ hsat hbd hM0_new
 ·rcases h.c with ⟨_, j1, j3, _, _, e1, e2, _⟩ | ⟨j1, j2, e1, _⟩
  ·rw [show Nat.ble j 6 = true by rw [Nat.ble_eq]; exact j3]
   exact callT_run (cxM_ok (hC0 E') e1 (ps_list e2)) 20
  ·rw [show Nat.ble j 6 = false by rw [Bool.eq_false_iff, ne_eq, Nat.ble_eq]; omega]
   exact callT_run (cxBe_ok e1) 20
 ·rcases hI.c with ⟨rfl, j1, j3, hfs, hlt, e1, e2, e3, f', hf', hw'⟩ | ⟨j1, j2, e1, e2, e3, e4⟩
  ·rw [show Nat.ble j 6 = true by rw [Nat.ble_eq]; exact j3]
   obtain ⟨hlen, D, hD⟩ := hI.r rfl
   have hgo := rng_ok goB_ok (j - 1) (by omega)
   rw [show j - 1 + 1 = j from by omega] at hgo
   refine ⟨⟨fB1 j, []⟩, nxB (sgB j), fa_list hfs trivial, Nat.eq_of_beq_eq_true hgo, fun _ => ?_⟩
   have hm := hI.m
   have h0 := hI.i0
   obtain ⟨j', m', E2, hj', hm', hI', ht, hrow⟩ := leadB (E := E') (z := 1) (q := rowB (cB j)) (m := m) (a := a) (B := B) (x := E'.i 12 + 1) (.inr rfl) ha hf' (σ := sgB j) hw' rfl (s12 := .op .add .i64 (.v 12) (.lit 1)) rfl (by
    show wrapF .i64 (E'.i 12 + 1) = _
    have := hI.b rfl
    rw [wrapF_eq, IntKind.wrap_i64]; omega) rfl hI.i20 hI.eb rfl rfl (fun i h1 h2 => (sgB_cut (by omega) (by omega) (by omega) (by omega) (by omega)).1) (fun q h1 h2 => (sgB_cut (by omega) (by omega) (by omega) (by omega) (by omega)).1) (fun _ => ⟨hlen, D, hD⟩) (by omega) hI.b (by have := hI.b rfl; omega) (fun h => by omega) (by omega)
   exact ⟨j', sgB j, m', E2, mem_nxB (by omega) (by omega), hm', hI', ht, hrow⟩
  ·rw [show Nat.ble j 6 = false by rw [Bool.eq_false_iff, ne_eq, Nat.ble_eq]; omega]
   have hout := rng_ok outB_ok (j - 7) (by omega)
   simp only [Bool.and_eq_true] at hout
   refine ⟨⟨fBe z (j - 7), []⟩, [], fa_list ⟨?_, e2, trivial⟩ trivial, ?_, fun h => absurd rfl h⟩
   ·rcases hz with rfl | rfl
    ·exact f_ltn (show 0 ≤ E'.i 12 from hI.i0)
    ·exact f_ltn (show E'.i 11 ≤ E'.i 12 by have := e3 rfl; omega)
   ·have hj : 7 + (j - 7) = j := by omega
    rcases hz with rfl | rfl
    ·have := Nat.eq_of_beq_eq_true hout.2
     unfold outB at this
     rw [hj] at this; exact this
    ·have := Nat.eq_of_beq_eq_true hout.1
     unfold outB at this
     rw [hj] at this; exact this
 ·intro _
  obtain ⟨j', m', E2, hj', hm', hI', ht, hrow⟩ := leadB (E := E) (z := z) (q := 100) (m := B.toNat + 1) (a := a) (B := B) (x := 0) hz ha hf0 (σ := sgB0) (by rw [s100]; exact rowF_is _ _) rfl (s12 := .lit 0) rfl rfl rfl i20 eb rfl rfl (fun i h1 h2 => (sgB_cut (j := 1) (by omega) (by omega) (by omega) (by omega) (by omega)).2) (fun q h1 h2 => (sgB_cut (j := 1) (by omega) (by omega) (by omega) (by omega) (by omega)).2) (fun h => ⟨by rw [s1]; exact i11, D1, by rw [s1]; exact h1 h⟩) (Int.le_refl 0) hB1 hB0 (fun _ => rfl) (by omega)
  exact ⟨j', sgB0, m', E2, mem_nxB0 hz hj', hm', hI', ht, hrow⟩
 ·rcases hz with rfl | rfl
  ·exact Nat.eq_of_beq_eq_true hin.1
  ·exact Nat.eq_of_beq_eq_true hin.2
end Go.Ev.X
end
