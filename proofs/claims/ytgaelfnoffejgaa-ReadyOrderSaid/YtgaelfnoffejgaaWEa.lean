/-
 ReadyOrder: the list of those who wait, in the order in which they came; who is the next one.
-/
import Derived.Test.YtgaelfnoffejgaaRGa
import Derived.Test.YtgaelfnoffejgaaWQa
import Derived.Test.YtgaelfnoffejgaaWQb
import Derived.Test.YtgaelfnoffejgaaWQ7
import Derived.Test.YtgaelfnoffejgaaWQ8
set_option linter.unusedSimpArgs false
set_option linter.unusedVariables false
set_option maxRecDepth 100000
noncomputable section
namespace Go.Ev.X
open Go Go.Ev Go.Proofs
variable {E : Env} {f f' : Nat → Int} {Q : Nat → List Nat} {t : Nat} {L : List Nat}
def pN (f : Nat → Int) (t : Nat) : Nat := (getT f t).pr.toNat
structure OkL (f : Nat → Int) (L : List Nat) (Q : Nat → List Nat) : Prop where
 q : QInv TT f Q
 nd : L.Nodup
 el : ∀ t, t ∈ L ↔ TT t ∧ (getT f t).q = true
 fl : ∀ p, p < 256 → Q p = L.filter (fun t => decide (pN f t = p))
theorem mid_eq {t : Nat} : ∀ {a b L M : List Nat}, (a ++ t :: b).Nodup → a ++ t :: b = L ++ t :: M → a ++ b = L ++ M
 | [], b, [], M, _, h => by simpa using h
 | [], b, y :: L, M, hn, h => by
  simp at h
  obtain ⟨rfl, rfl⟩ := h
  simp at hn
 | x :: a, b, [], M, hn, h => by
  simp at h
  obtain ⟨rfl, rfl⟩ := h
  simp at hn
 | x :: a, b, y :: L, M, hn, h => by
  simp at h
  obtain ⟨rfl, h⟩ := h
  have := mid_eq (List.nodup_cons.1 (by simpa using hn)).2 h
  simp [this]
theorem push_L (h : OkL f L Q) (ht : TT t) (hq : (getT f t).q = false) : ∃ Q', OkL (pushF f t) (L ++ [t]) Q' := by
 obtain ⟨g1, g2, _⟩ := push_g TT_thr h.q ht hq
 obtain ⟨hp, hpe⟩ := pr_nat h.q ht
 have hn : t ∉ L := fun hm => by have := ((h.el t).1 hm).2; rw [hq] at this; cases this
 have hpr : ∀ u, TT u → pN (pushF f t) u = pN f u := fun u hu => by
  obtain ⟨pv, nx, e⟩ := g2 u hu
  unfold pN; rw [e]
 have hTL : ∀ u ∈ L, TT u := fun u hu => ((h.el u).1 hu).1
 refine ⟨_, g1, List.nodup_append.2 ⟨h.nd, by simp, fun x hx y hy => by simp at hy; subst hy; exact fun e => hn (e ▸ hx)⟩, fun u => ?_, fun p hp' => ?_⟩
 ·constructor
  ·intro hu
   rcases List.mem_append.1 hu with h1 | h1
   ·obtain ⟨a, b⟩ := (h.el u).1 h1
    obtain ⟨pv, nx, e⟩ := g2 u a
    exact ⟨a, by rw [e]; simp [b]⟩
   ·have : u = t := by simpa using h1
    subst this
    obtain ⟨pv, nx, e⟩ := g2 u ht
    exact ⟨ht, by rw [e]; simp⟩
  ·rintro ⟨a, b⟩
   obtain ⟨pv, nx, e⟩ := g2 u a
   rw [e] at b
   simp at b
   rcases b with rfl | b
   ·simp
   ·exact List.mem_append_left _ ((h.el u).2 ⟨a, b⟩)
 ·have e1 : (L ++ [t]).filter (fun u => decide (pN (pushF f t) u = p)) = (L ++ [t]).filter (fun u => decide (pN f u = p)) := List.filter_congr fun u hu => by
   have : TT u := by
    rcases List.mem_append.1 hu with h1 | h1
    ·exact hTL u h1
    ·have : u = t := by simpa using h1
     subst this; exact ht
   rw [hpr u this]
  rw [e1, List.filter_append]
  by_cases e : p = (getT f t).pr.toNat
  ·subst e
   rw [setP_same, h.fl _ hp']
   simp [pN]
  ·rw [setP_other _ _ e, h.fl _ hp']
   have : ¬ pN f t = p := fun h => e h.symm
   simp [this]
theorem drop_L {A B : List Nat} (h : OkL f (A ++ t :: B) Q) : TT t ∧ (getT f t).q = true ∧ ∃ Q', OkL (dropF f t) (A ++ B) Q' := by
 obtain ⟨ht, hq⟩ := (h.el t).1 (by simp)
 refine ⟨ht, hq, ?_⟩
 obtain ⟨⟨a, b, hab, g1⟩, g2, _⟩ := drop_g TT_thr h.q ht hq
 obtain ⟨hp, hpe⟩ := pr_nat h.q ht
 have hpr : ∀ u, TT u → pN (dropF f t) u = pN f u := fun u hu => by
  obtain ⟨pv, nx, e⟩ := g2 u hu
  unfold pN; rw [e]
 obtain ⟨na, nb, nab⟩ := List.nodup_append.1 h.nd
 have nb' := List.nodup_cons.1 nb
 have nta : t ∉ A := fun hx => nab t hx t (by simp) rfl
 have hTL : ∀ u ∈ A ++ B, TT u := fun u hu => ((h.el u).1 (by
  rcases List.mem_append.1 hu with h1 | h1 <;> simp [h1])).1
 refine ⟨_, g1, List.nodup_append.2 ⟨na, nb'.2, fun x hx y hy => nab x hx y (by simp [hy])⟩, fun u => ?_, fun p hp' => ?_⟩
 ·constructor
  ·intro hu
   have hne : u ≠ t := by
    rintro rfl
    rcases List.mem_append.1 hu with h1 | h1
    ·exact nta h1
    ·exact nb'.1 h1
   obtain ⟨a', b'⟩ := (h.el u).1 (by rcases List.mem_append.1 hu with h1 | h1 <;> simp [h1])
   obtain ⟨pv, nx, e⟩ := g2 u a'
   exact ⟨a', by rw [e]; simp [b', hne]⟩
  ·rintro ⟨a', b'⟩
   obtain ⟨pv, nx, e⟩ := g2 u a'
   rw [e] at b'
   simp at b'
   have := (h.el u).2 ⟨a', b'.2⟩
   simp [b'.1] at this ⊢
   exact this
 ·have e1 : (A ++ B).filter (fun u => decide (pN (dropF f t) u = p)) = (A ++ B).filter (fun u => decide (pN f u = p)) := List.filter_congr fun u hu => by rw [hpr u (hTL u hu)]
  rw [e1, List.filter_append]
  have hf := h.fl p hp'
  rw [List.filter_append] at hf
  by_cases e : p = (getT f t).pr.toNat
  ·subst e
   rw [setP_same]
   have hf2 : Q (getT f t).pr.toNat = A.filter (fun u => decide (pN f u = (getT f t).pr.toNat)) ++ t :: B.filter (fun u => decide (pN f u = (getT f t).pr.toNat)) := by
    rw [hf, List.filter_cons_of_pos (by simp [pN])]
   have hn := h.q.nd _ hp
   rw [hab] at hf2 hn
   exact mid_eq hn hf2
  ·rw [setP_other _ _ e, hf, List.filter_cons_of_neg (by have : ¬ pN f t = p := fun h => e h.symm; simp [this])]
theorem hd_filter {c : Nat → Bool} : ∀ {L : List Nat} {b : Nat}, b < L.length → c (L.getD b 0) = true → (∀ i, i < b → c (L.getD i 0) = false) → hdN (L.filter c) 0 = L.getD b 0
 | [], b, h, _, _ => by simp at h
 | x :: r, 0, h, h1, _ => by
  have h1 : c x = true := h1
  rw [List.filter_cons_of_pos h1]; rfl
 | x :: r, b + 1, h, h1, h2 => by
  have h0 : c x = false := h2 0 (by omega)
  rw [List.filter_cons_of_neg (by rw [h0]; simp)]
  have := hd_filter (L := r) (b := b) (by simpa using h) (by simpa using h1) (fun i hi => by simpa using h2 (i + 1) (by omega))
  simpa using this
theorem top_L (h : OkL f L Q) {b : Nat} (hb : b < L.length) (hmax : ∀ i, i < L.length → pN f (L.getD i 0) ≤ pN f (L.getD b 0)) (hmin : ∀ i, i < b → pN f (L.getD i 0) < pN f (L.getD b 0)) :
  pN f (L.getD b 0) < 256 ∧ hdN (Q (pN f (L.getD b 0))) 0 = L.getD b 0 ∧ ∀ o, Top Q o → topH Q o = (L.getD b 0 : Nat) := by
 have hm := getD_mem (L := L) hb
 obtain ⟨ht, hq⟩ := (h.el _).1 hm
 obtain ⟨hp, _⟩ := pr_nat h.q ht
 have hp : pN f (L.getD b 0) < 256 := hp
 have hh : hdN (Q (pN f (L.getD b 0))) 0 = L.getD b 0 := by
  rw [h.fl _ hp]
  exact hd_filter hb (decide_eq_true rfl) fun i hi => decide_eq_false (by have := hmin i hi; omega)
 refine ⟨hp, hh, fun o ho => ?_⟩
 have hmq : L.getD b 0 ∈ Q (pN f (L.getD b 0)) := by rw [h.fl _ hp]; exact List.mem_filter.2 ⟨hm, by simp⟩
 cases ho with
 | none hz => rw [hz _ hp] at hmq; cases hmq
 | some p hp' hne hab =>
  have hle : p ≤ pN f (L.getD b 0) := by
   obtain ⟨x, hx⟩ := List.exists_mem_of_ne_nil _ hne
   rw [h.fl _ hp'] at hx
   obtain ⟨hxL, hxp⟩ := List.mem_filter.1 hx
   have hxp : pN f x = p := by simpa using hxp
   obtain ⟨i, hi, hix⟩ := List.getElem_of_mem hxL
   have := hmax i hi
   rw [List.getD_eq_getElem?_getD, List.getElem?_eq_getElem hi] at this
   simp only [Option.getD_some] at this
   rw [hix, hxp] at this
   exact this
  have hge : ¬ p < pN f (L.getD b 0) := fun hlt => by rw [hab _ hlt hp] at hmq; cases hmq
  have : p = pN f (L.getD b 0) := by omega
  subst this
  show ((hdN (Q _) 0 : Nat) : Int) = _
  rw [hh]
end Go.Ev.X
end
/-
 ReadyOrder: the law.
-/
set_option linter.unusedSimpArgs false
set_option linter.unusedVariables false
set_option maxRecDepth 100000
noncomputable section
namespace Go.Ev.X
open Go Go.Ev Go.Proofs
variable {E : Env} {f f' : Nat → Int} {Q : Nat → List Nat} {t : Nat} {L L' : List Nat}
theorem sgL_app {l m : List (Nat × SE)} {i : Nat} (h : ∀ p ∈ l, i ≠ p.1) : sgL (l ++ m) i = sgL m i := by
 induction l with
 | nil => rfl
 | cons p r ih =>
  obtain ⟨a, s⟩ := p
  have e : Nat.beq i a = false := by
   rw [Bool.eq_false_iff]; simpa using h (a, s) (by simp)
  show bc (Nat.beq i a) (some s) (sgL (r ++ m) i) = _
  rw [e]
  exact ih fun p hp => h p (by simp [hp])
theorem sgL_map {g : Nat → SE} {b : Nat} : ∀ (m i : Nat) {k : Nat}, i ≤ k → k < i + m → sgL ((rngF i m).map fun i => (b + i, g i)) (b + k) = some (g k)
 | 0, i, k, h1, h2 => by omega
 | m + 1, i, k, h1, h2 => by
  show bc (Nat.beq (b + k) (b + i)) (some (g i)) (sgL ((rngF (i + 1) m).map fun i => (b + i, g i)) (b + k)) = _
  by_cases e : k = i
  ·subst e
   rw [show Nat.beq (b + k) (b + k) = true by simp]; rfl
  ·rw [show Nat.beq (b + k) (b + i) = false by rw [Bool.eq_false_iff, ne_eq, Nat.beq_eq]; omega]
   exact sgL_map m (i + 1) (by omega) (by omega)
theorem mem_rngFi : ∀ {m i k : Nat}, k ∈ rngF i m → i ≤ k ∧ k < i + m
 | 0, i, k, h => by cases h
 | m + 1, i, k, h => by
  rcases List.mem_cons.1 (show k ∈ i :: rngF (i + 1) m from h) with rfl | h
  ·omega
  ·have := mem_rngFi h; omega
def Els (E : Env) (L : List Nat) : Prop := ∀ i, i < L.length → E.i (400 + i) = (L.getD i 0 : Nat)
structure RndW (c n k : Nat) (E : Env) : Prop where
 ok : (c = 1 ∧ n < 8 ∧ k = 0) ∨ ((c = 2 ∨ c = 3 ∨ c = 5 ∨ c = 6) ∧ k = 0) ∨ (c = 4 ∧ k < n)
 p : EntsOk PP cP E 100 (esW c)
 ps : PsOk PP E (psW c)
 fs : FsOk E (fsW c n k)
 w : ∃ f' L' Q', OkL f' L' Q' ∧ L'.length = toW c n ∧ WordsIs (E.s (rowW c)).cs 2048 f' ∧ ∀ i, i < toW c n → (elW c n k i).den E = (L'.getD i 0 : Nat)
theorem pe2 {F : Nat} {x y : Int} {e : SE} {v : V} (hca : Callable PP F) (hx : e.den E = x) (hv : ∀ ρ, v.γ E ρ = .int .i64 y) (hbd : v.bd 0) (hc : ∀ W, Calls PP F #[.int .i64 x] W fun e w' => e = .returned (.int .i64 y) ∧ RowKit.Below W.heap.size W w') : PEntOk PP E ⟨F, [.si .i64 e], v⟩ :=
 ⟨hbd, hca, fun ρ w => by
  have hargs : (γL E ρ [.si .i64 e]).toArray = #[.int .i64 x] := by simp only [γL, V.γ, hx]
  rw [hargs]
  refine (hc w).mono ?_
  rintro e w' ⟨rfl, hb⟩
  exact ⟨by rw [hv ρ], hb⟩⟩
theorem quo_I {x : Int} (hx : I64 x) : I64 (x.tdiv 2) := by
 unfold I64 at hx ⊢
 by_cases h : 0 ≤ x
 ·rw [Int.tdiv_eq_ediv_of_nonneg h]; omega
 ·have : x.tdiv 2 = -((-x).tdiv 2) := by rw [Int.neg_tdiv, Int.neg_neg]
  rw [this, Int.tdiv_eq_ediv_of_nonneg (by omega)]; omega
theorem psW_ok {c : Nat} {x tv : Int} (hx : I64 x) (h13 : E.i 13 = x) (h300 : nobW c = false → E.i 300 = tv) (h1 : nobW c = false → tcI (x.tdiv 2) = tv) (h2 : nobW c = true → tcI (x.tdiv 2) = 1056) : PsOk PP E (psW c) := by
 have he : SE.den E quoW = x.tdiv 2 := by
  show wrapF .i64 ((E.i 13).tdiv 2) = _
  have := quo_I hx
  unfold I64 at this
  rw [h13, wrapF_eq, IntKind.wrap_i64]; omega
 refine ⟨pe2 Try.call10 he (y := tcI (x.tdiv 2)) (fun ρ => ?_) ?_ fun W => tcb_c (quo_I hx) W, trivial⟩
 ·cases hc : nobW c with
  | true => rw [h2 hc]; rfl
  | false => rw [h1 hc]; exact vsi (h300 hc)
 ·cases nobW c <;> exact trivial
theorem getD_take_drop {L : List Nat} {k i : Nat} (hk : k < L.length) : (L.take k ++ L.drop (k + 1)).getD i 0 = if i < k then L.getD i 0 else L.getD (i + 1) 0 := by
 rw [List.getD_eq_getElem?_getD, List.getElem?_append]
 have hl : (L.take k).length = k := by rw [List.length_take]; omega
 rw [hl]
 split
 ·rw [List.getElem?_take_of_lt (by assumption), ← List.getD_eq_getElem?_getD]
 ·rw [List.getElem?_drop, show k + 1 + (i - k) = i + 1 from by omega, ← List.getD_eq_getElem?_getD]
theorem split_at {L : List Nat} {k : Nat} (hk : k < L.length) : L = L.take k ++ L.getD k 0 :: L.drop (k + 1) := by
 have : L.drop k = L.getD k 0 :: L.drop (k + 1) := by
  rw [List.drop_eq_getElem_cons hk, List.getD_eq_getElem?_getD, List.getElem?_eq_getElem hk]; rfl
 rw [← this, List.take_append_drop]
theorem getD_inj {L : List Nat} (hn : L.Nodup) {i k : Nat} (hi : i < L.length) (hk : k < L.length) (h : L.getD i 0 = L.getD k 0) : i = k := by
 rw [List.getD_eq_getElem?_getD, List.getD_eq_getElem?_getD, List.getElem?_eq_getElem hi, List.getElem?_eq_getElem hk] at h
 exact (List.getElem_inj hn).1 h
theorem rem2 {x : Int} (h13 : E.i 13 = x) : SE.den E (.op .rem .i64 (.v 13) (.lit 2)) = x.tmod 2 := by
 show (E.i 13).tmod 2 = _
 rw [h13]
theorem rnd_ex (h : OkL f L Q) {n : Nat} (hl : L.length = n) {x : Int} (hx : I64 x) : ∃ (c k : Nat) (tv : Int) (kp : Nat) (f' : Nat → Int), ∀ E : Env, E.i 13 = x → E.i 300 = tv → E.i 310 = (kp : Nat) → Els E L → WordsIs (E.s 100).cs 2048 f → WordsIs (E.s 101).cs 2048 f' → RndW c n k E := by
 have hTT : ∀ u ∈ L, TT u := fun u hu => ((h.el u).1 hu).1
 have keep : ∀ E : Env, Els E L → ∀ i, i < n → SE.den E (.v (400 + i)) = (L.getD i 0 : Nat) := fun E hE i hi => hE i (by omega)
 have ev : x.tmod 2 = 0 → ∀ E : Env, E.i 13 = x → (SB.cmp .eql (.op .rem .i64 (.v 13) (.lit 2)) (.lit 0)).den E = true := fun h0 E h13 => f_eq ((rem2 h13).trans h0)
 have od : ¬ x.tmod 2 = 0 → ∀ E : Env, E.i 13 = x → (SB.cmp .eql (.op .rem .i64 (.v 13) (.lit 2)) (.lit 0)).den E = false := fun h0 E h13 => f_eqn (by rw [rem2 h13]; exact h0)
 by_cases h8 : x.tdiv 2 % 9 = 8
 ·have ht : tcI (x.tdiv 2) = 1056 := if_pos h8
  by_cases h0 : x.tmod 2 = 0
  ·exact ⟨3, 0, 0, 0, f, fun E h13 h300 h310 hE w0 w1 => ⟨.inr (.inl ⟨by omega, rfl⟩), trivial, psW_ok (tv := 0) hx h13 (fun h => by cases h) (fun h => by cases h) (fun _ => ht), ⟨ev h0 E h13, trivial⟩, f, L, Q, h, hl, w0, keep E hE⟩⟩
  ·refine ⟨6, 0, 0, 0, f, fun E h13 h300 h310 hE w0 w1 => ⟨.inr (.inl ⟨by omega, rfl⟩), trivial, psW_ok (tv := 0) hx h13 (fun h => by cases h) (fun h => by cases h) (fun _ => ht), ⟨od h0 E h13, fs_map _ _ fun i h1 h2 => f_ne ?_⟩, f, L, Q, h, hl, w0, keep E hE⟩⟩
   rw [keep E hE i (by omega)]
   have := hTT _ (getD_mem (L := L) (i := i) (by omega))
   unfold TT at this
   show ((L.getD i 0 : Nat) : Int) ≠ 1056
   omega
 obtain ⟨t, htd⟩ : ∃ t, t = tcM (x.tdiv 2 % 9).toNat := ⟨_, rfl⟩
 have hT : TT t := by rw [htd]; exact tcM_tt (by omega)
 have ht : tcI (x.tdiv 2) = (t : Nat) := by rw [htd]; unfold tcI tcM; rw [if_neg h8]; omega
 cases hq : (getT f t).q with
 | false =>
  have hni : t ∉ L := fun hm => by have := ((h.el t).1 hm).2; rw [hq] at this; cases this
  by_cases h0 : x.tmod 2 = 0
  ·obtain ⟨Q', h'⟩ := push_L h hT hq
   obtain ⟨kp, ⟨p1, _⟩, c1⟩ := push_cp h.q hT hq
   have hle := len8 h'.nd fun u hu => ((h'.el u).1 hu).1
   rw [List.length_append] at hle
   simp at hle
   refine ⟨1, 0, t, kp, _, fun E h13 h300 h310 hE w0 w1 => ⟨.inl ⟨rfl, by omega, rfl⟩, ⟨ent_g w0 w1 c1 p1 h310 (fun ρ => arg1 (vsi h300)) (fun ρ => rfl), trivial⟩, psW_ok hx h13 (fun _ => h300) (fun _ => ht) (fun h => by cases h), ⟨ev h0 E h13, trivial⟩, _, L ++ [t], Q', h', by simp [hl, toW], w1, fun i hi => ?_⟩⟩
   have hi : i < n + 1 := hi
   show SE.den E (bif Nat.beq i n then .v 300 else .v (400 + i)) = _
   by_cases e : i = n
   ·subst e
    rw [show Nat.beq i i = true by simp, List.getD_eq_getElem?_getD, List.getElem?_append_right (by omega), hl]
    simp
    exact h300
   ·rw [show Nat.beq i n = false by rw [Bool.eq_false_iff]; simpa using e, List.getD_eq_getElem?_getD, List.getElem?_append_left (by omega), ← List.getD_eq_getElem?_getD]
    exact keep E hE i (by omega)
  ·obtain ⟨kp, ⟨p1, _⟩, c1⟩ := empty_p h.q hT hq
   refine ⟨5, 0, t, kp, f, fun E h13 h300 h310 hE w0 w1 => ⟨.inr (.inl ⟨by omega, rfl⟩), ⟨ent_g w0 w1 c1 p1 h310 (fun ρ => arg1 (vsi h300)) (fun ρ => rfl), trivial⟩, psW_ok hx h13 (fun _ => h300) (fun _ => ht) (fun h => by cases h), ⟨od h0 E h13, fs_map _ _ fun i h1 h2 => f_ne ?_⟩, f, L, Q, h, hl, w1, keep E hE⟩⟩
   rw [keep E hE i (by omega), show SE.den E (.v 300) = E.i 300 from rfl, h300]
   exact fun e => hni (by
    have e : L.getD i 0 = t := by exact_mod_cast e
    rw [← e]; exact getD_mem (by omega))
 | true =>
  have hm : t ∈ L := (h.el t).2 ⟨hT, hq⟩
  by_cases h0 : x.tmod 2 = 0
  ·obtain ⟨kp, ⟨p1, _⟩, c1⟩ := full_p h.q hT hq
   exact ⟨2, 0, t, kp, f, fun E h13 h300 h310 hE w0 w1 => ⟨.inr (.inl ⟨by omega, rfl⟩), ⟨ent_g w0 w1 c1 p1 h310 (fun ρ => arg1 (vsi h300)) (fun ρ => rfl), trivial⟩, psW_ok hx h13 (fun _ => h300) (fun _ => ht) (fun h => by cases h), ⟨ev h0 E h13, trivial⟩, f, L, Q, h, hl, w1, keep E hE⟩⟩
  ·obtain ⟨k, hk, hkt⟩ := List.getElem_of_mem hm
   have hkt : L.getD k 0 = t := by rw [List.getD_eq_getElem?_getD, List.getElem?_eq_getElem hk]; exact hkt
   obtain ⟨kp, ⟨p1, _⟩, c1⟩ := drop_cp h.q hT hq
   have hs := split_at hk
   rw [hkt] at hs
   obtain ⟨_, _, Q', h'⟩ := drop_L (Q := Q) (A := L.take k) (B := L.drop (k + 1)) (t := t) (f := f) (by rw [← hs]; exact h)
   refine ⟨4, k, t, kp, _, fun E h13 h300 h310 hE w0 w1 => ⟨.inr (.inr ⟨rfl, by omega⟩), ⟨ent_g w0 w1 c1 p1 h310 (fun ρ => arg1 (vsi h300)) (fun ρ => rfl), trivial⟩, psW_ok hx h13 (fun _ => h300) (fun _ => ht) (fun h => by cases h), ⟨od h0 E h13, fs_map _ _ fun i h1 h2 => ?_⟩, _, _, Q', h', ?_, w1, fun i hi => ?_⟩⟩
   ·show (SB.cmp .neq (.v (400 + i)) (.v 300)).den E = !Nat.beq i k
    by_cases e : i = k
    ·subst e
     rw [show Nat.beq i i = true by simp]
     refine f_nen ?_
     rw [keep E hE i (by omega), hkt]; exact h300.symm
    ·rw [show Nat.beq i k = false by rw [Bool.eq_false_iff]; simpa using e]
     refine f_ne ?_
     rw [keep E hE i (by omega), show SE.den E (.v 300) = E.i 300 from rfl, h300, ← hkt]
     exact fun e2 => e (getD_inj h.nd (by omega) hk (by exact_mod_cast e2))
   ·show _ = Nat.pred n
    rw [List.length_append, List.length_take, List.length_drop]
    show _ = n - 1
    omega
   ·have hi : i < n - 1 := hi
    show SE.den E (bif Nat.blt i k then .v (400 + i) else .v (400 + (i + 1))) = _
    rw [getD_take_drop hk]
    by_cases e : i < k
    ·rw [show Nat.blt i k = true by simpa using e, if_pos e]; exact keep E hE i (by omega)
    ·rw [show Nat.blt i k = false by rw [Bool.eq_false_iff]; simpa using e, if_neg e]; exact keep E hE (i + 1) (by omega)
end Go.Ev.X
end
