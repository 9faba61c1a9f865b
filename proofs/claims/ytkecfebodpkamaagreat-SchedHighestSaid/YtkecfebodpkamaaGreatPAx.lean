/-
 Laws that do what a list says and then more: several ends, each with a table of its own.
-/
import Derived.Test.YtkecfebodpkamaaGreatSPx
import Derived.Test.YtkecfebodpkamaaGreatSL
import Derived.Test.YtkecfebodpkamaaGreatE5
set_option linter.unusedSimpArgs false
set_option linter.unusedVariables false
set_option maxRecDepth 100000
noncomputable section
namespace Go.Ev.X
open Go Go.Ev Go.Proofs
variable {E : Env} {f f' : Nat → Int}
structure EndE (E : Env) (f : Nat → Int) (a b : Int) (vs : Nat → Int) (rows : Nat → Row) : Prop where
 i : ∀ i, 300 ≤ i → i < 100000 → E.i i = vs i
 x : E.i 20 = a
 y : E.i 21 = b
 p : WordsIs (E.s 100).cs 8192 f
 r : WordsIs (E.s 200).cs 8192 f
 s : ∀ q, 101 ≤ q → q < 200 → E.s q = rows q
def InvB (B a b : Int) (n : Nat) (EO : Nat → Env → Prop) (m j : Nat) (E : Env) : Prop := E.i 1 = (E.s 0).len ∧ (∃ D, RowA (E.s 0) D) ∧ 0 ≤ E.i 2 ∧ (m : Int) + E.i 2 = B ∧ E.i 20 = a ∧ E.i 21 = b ∧
 ((1 ≤ j ∧ j ≤ 10 ∧ Live j E ∧ E.i 2 < E.i 1 ∧ E.i 2 < B) ∨ (11 ≤ j ∧ j < 11 + n ∧ EO (j - 11) E ∧ ¬ (E.i 2 < E.i 1 ∧ E.i 2 < B)))
def Ends (n : Nat) (a b : Int) (EO : Nat → Env → Prop) : Prop := ∀ f, OkW f → ∃ e vs rows, e < n ∧ ∀ E, EndE E f a b vs rows → EO e E
def stB (fr : List (Ky × V)) (j : Nat) : GS := ⟨fr, hA (bif Nat.ble j 10 then j else 0)⟩
def nxB (n : Nat) (σ : Sg) : List (Nat × Sg) := (rng (10 + n)).map fun j => (j + 1, σ)
theorem mem_nxB {n : Nat} {σ : Sg} {j : Nat} (h1 : 1 ≤ j) (h2 : j < 11 + n) : (j, σ) ∈ nxB n σ := by
 unfold nxB
 refine List.mem_map.2 ⟨j - 1, mem_rngF (by omega) (by omega), ?_⟩
 rw [show j - 1 + 1 = j from by omega]
theorem leadB {fr : List (Ky × V)} {σ : Sg} {rp rr : Nat} {B a b : Int} {n m : Nat} {EO : Nat → Env → Prop} (hends : Ends n a b EO) (hf : OkW f) (hp : WordsIs (E.s rp).cs 8192 f) (hr : WordsIs (E.s rr).cs 8192 f) (g1 : σ 1 = some (.v 1)) {s2 : SE} (g2 : σ 2 = some s2) {x : Int} (hx : s2.den E = x) (hx0 : 0 ≤ x) (hxB : x ≤ B)
  (ga : σ 20 = some (.v 20)) (gb : σ 21 = some (.v 21)) (ha : E.i 20 = a) (hb : E.i 21 = b) (n3 : σ 3 = none) (n4 : σ 4 = none) (n7 : σ 7 = none) (nf : ∀ i, 300 ≤ i → i < 100000 → σ i = none) (gp : σ 100100 = some (.lit (.ofNat rp))) (gr : σ 100200 = some (.lit (.ofNat rr)))
  (nr : ∀ q, 101 ≤ q → q ≠ 200 → σ (100000 + q) = none) (hlen : E.i 1 = (E.s 0).len) {D : Nat → Int × Int × Int} (hD : RowA (E.s 0) D) (hm : B - x < m) : Leads (stB fr) (InvB B a b n EO) E (nxB n σ) m := by
 intro _
 have key : ∀ (vs : Nat → Int) (rows : Nat → Row), ∃ E', TrE σ E E' ∧ E'.i 1 = E.i 1 ∧ E'.i 2 = x ∧ E'.i 20 = a ∧ E'.i 21 = b ∧ E'.s 0 = { E.s 0 with idx := x.toNat } ∧ WordsIs (E'.s 100).cs 8192 f ∧ WordsIs (E'.s 200).cs 8192 f ∧ (∀ i, σ i = none → E'.i i = vs i) ∧ ∀ q, 101 ≤ q → q ≠ 200 → E'.s q = rows q := by
  intro vs rows
  have t := nxA_tr σ E x vs rows
  refine ⟨nxA σ E x vs rows, t, t.i 1 _ g1, (t.i 2 _ g2).trans hx, (t.i 20 _ ga).trans ha, (t.i 21 _ gb).trans hb, rfl, ?_, ?_, fun i hi => by simp [nxA, hi], fun q h1 h2 => ?_⟩
  ·rw [nxA_s]
   unfold nxS
   rw [if_neg (by omega), show 100000 + 100 = 100100 from rfl, gp]; exact hp
  ·rw [nxA_s]
   unfold nxS
   rw [if_neg (by omega), show 100000 + 200 = 100200 from rfl, gr]; exact hr
  ·rw [nxA_s]
   unfold nxS
   rw [if_neg (by omega), nr q h1 h2]
 by_cases hk : x < (E.s 0).len ∧ x < B
 ·obtain ⟨c0, c1, c2, r0, r1, r2⟩ := hD.c x.toNat (by omega)
  obtain ⟨j, f', kp, kr, j1, j2, hall⟩ := choose hf r0 r1 r2
  obtain ⟨E', t, e1, e2, ea, eb, e0, hp', hr', hv, hs⟩ := key (vsA (D x.toNat).1 (D x.toNat).2.1 (D x.toNat).2.2 (pickI (D x.toNat).2.1 4) kp kr) (fun _ => rowF 8192 f')
  have hE : EnvA E' f f' (D x.toNat).1 (D x.toNat).2.1 (D x.toNat).2.2 kp kr := ⟨(hv 3 n3).trans rfl, (hv 4 n4).trans rfl, (hv 7 n7).trans rfl, (hv 300 (nf 300 (by omega) (by omega))).trans rfl, (hv 310 (nf 310 (by omega) (by omega))).trans rfl, (hv 311 (nf 311 (by omega) (by omega))).trans rfl,
   hp', by rw [hs 101 (by omega) (by omega)]; exact rowF_is _ _, hr', by rw [hs 201 (by omega) (by omega)]; exact rowF_is _ _⟩
  have hD' : RowA (E'.s 0) D := by rw [e0]; exact hD.idx _
  have hl' : (E'.s 0).len = (E.s 0).len := by rw [e0]
  have hi' : (E'.s 0).idx = x.toNat := by rw [e0]
  have hrow := rng_ok hA_row (j - 1) (by omega)
  rw [show j - 1 + 1 = j from by omega] at hrow
  have hst : (stB fr j).h = hA j := by
   show hA (bif Nat.ble j 10 then j else 0) = hA j
   have : Nat.ble j 10 = true := by rw [Nat.ble_eq]; exact j2
   rw [this]; rfl
  refine ⟨j, σ, (B - x).toNat, E', mem_nxB j1 (by omega), by omega, ⟨by rw [e1, hl']; exact hlen, ⟨D, hD'⟩, by omega, by omega, ea, eb, .inl ⟨j1, j2, hall E' hE, by omega, by omega⟩⟩, t, ?_⟩
  rw [hst]
  exact row3_ok hrow (by rw [e2, hi']; omega) (by rw [hi', hl']; omega) hD' (by rw [hi']; exact hE.i3) (by rw [hi']; exact hE.i4) (by rw [hi']; exact hE.i7)
 ·obtain ⟨e, vs, rows, he, hall⟩ := hends f hf
  obtain ⟨E', t, e1, e2, ea, eb, e0, hp', hr', hv, hs⟩ := key vs rows
  have hD' : RowA (E'.s 0) D := by rw [e0]; exact hD.idx _
  have hl' : (E'.s 0).len = (E.s 0).len := by rw [e0]
  have hst : (stB fr (11 + e)).h = hA 0 := by
   show hA (bif Nat.ble (11 + e) 10 then 11 + e else 0) = hA 0
   have : Nat.ble (11 + e) 10 = false := by rw [Bool.eq_false_iff, ne_eq, Nat.ble_eq]; omega
   rw [this]; rfl
  refine ⟨11 + e, σ, (B - x).toNat, E', mem_nxB (by omega) (by omega), by omega, ⟨by rw [e1, hl']; exact hlen, ⟨D, hD'⟩, by omega, by omega, ea, eb, .inr ⟨by omega, by omega, ?_, fun h => hk ⟨by omega, by omega⟩⟩⟩, t, ?_⟩
  ·rw [show 11 + e - 11 = e from by omega]
   exact hall E' ⟨fun i h1 h2 => hv i (nf i h1 h2), ea, eb, hp', hr', fun q h1 h2 => hs q h1 (by omega)⟩
  ·rw [hst]; exact rowU_ok hA_end
end Go.Ev.X
end
/-
 SchedPriority: its runs.
-/
set_option linter.unusedSimpArgs false
set_option linter.unusedVariables false
set_option maxRecDepth 100000
noncomputable section
namespace Go.Ev.X
open Go Go.Ev Go.Proofs
def sgK (j : Nat) : Sg := sgL [(1, .v 1), (2, .op .add .i64 (.v 2) (.lit 1)), (5, s5A j), (6, s6A j), (20, .v 20), (21, .v 21), (100100, .lit (.ofNat (rpA j))), (100200, .lit (.ofNat (rrA j)))]
def sgK0 : Sg := sgL [(1, .v 1), (2, .lit 0), (5, .lit 0), (6, .lit 677), (20, .v 20), (21, .v 21), (100100, .lit 100), (100200, .lit 200)]
def symP : Nat → SE
 | 0 => .v 450
 | i + 1 => .v (805 + 40 * i)
def thrP (n i : Nat) : Ent := ⟨18, [.si .i64 (symP i)], 106 + i, .tup [tA (800 + 40 * i) (sv (800 + 40 * i)) (sv (801 + 40 * i)) (sv (802 + 40 * i)) (tv (803 + 40 * i)) (sv (804 + 40 * i)) (bif Nat.beq (i + 1) n then .i .i64 0 else sv (805 + 40 * i)) (sv (806 + 40 * i)) (sv (807 + 40 * i)) (tv (808 + 40 * i)) (tv (809 + 40 * i)) (sv (810 + 40 * i)) (sv (811 + 40 * i)) (sv (812 + 40 * i)) (sv (813 + 40 * i)), .i .i64 0], .v (325 + i)⟩
end Go.Ev.X
end
/-
 Laws that do what a list says and then more: the law.
-/
set_option linter.unusedSimpArgs false
set_option linter.unusedVariables false
set_option maxRecDepth 100000
noncomputable section
namespace Go.Ev.X
open Go Go.Ev Go.Proofs
variable {E : Env}
theorem sgL_cut {l : List (Nat × SE)} {i : Nat} (h : ∀ p ∈ l, i ≠ p.1) : sgL l i = none := by
 induction l with
 | nil => rfl
 | cons p r ih =>
  obtain ⟨a, s⟩ := p
  have e : Nat.beq i a = false := by
   rw [Bool.eq_false_iff]; simpa using h (a, s) (by simp)
  show bc (Nat.beq i a) (some s) (sgL r i) = none
  rw [e]
  exact ih fun p hp => h p (by simp [hp])
theorem sgK_cut {j i : Nat} (a1 : i ≠ 1) (a2 : i ≠ 2) (a3 : i ≠ 5) (a4 : i ≠ 6) (a5 : i ≠ 20) (a6 : i ≠ 21) (a7 : i ≠ 100100) (a8 : i ≠ 100200) : sgK j i = none ∧ sgK0 i = none := by
 constructor <;> refine sgL_cut fun p hp => ?_ <;> simp only [List.mem_cons, List.not_mem_nil, or_false] at hp <;> rcases hp with rfl | rfl | rfl | rfl | rfl | rfl | rfl | rfl <;> assumption
theorem sgK_lead {fr : List (Ky × V)} {B a b : Int} {n m j : Nat} {EO : Nat → Env → Prop} (hends : Ends n a b EO) (hB : B < 4611686018427387904) (hlen : E.i 1 = (E.s 0).len) {D : Nat → Int × Int × Int} (hD : RowA (E.s 0) D) (h20 : 0 ≤ E.i 2) (hm : (m : Int) + E.i 2 = B) (ha : E.i 20 = a) (hb : E.i 21 = b) (hl : Live j E) (hk : E.i 2 < B) :
  Leads (stB fr) (InvB B a b n EO) E (nxB n (sgK j)) m := by
 obtain ⟨_, _, _, _, f', hok, hp, hr⟩ := hl
 refine leadB (x := E.i 2 + 1) (s2 := .op .add .i64 (.v 2) (.lit 1)) hends hok hp hr rfl rfl ?_ (by omega) (by omega) rfl rfl ha hb (sgK_cut (by omega) (by omega) (by omega) (by omega) (by omega) (by omega) (by omega) (by omega)).1 (sgK_cut (by omega) (by omega) (by omega) (by omega) (by omega) (by omega) (by omega) (by omega)).1 (sgK_cut (by omega) (by omega) (by omega) (by omega) (by omega) (by omega) (by omega) (by omega)).1
  (fun i h1 h2 => (sgK_cut (by omega) (by omega) (by omega) (by omega) (by omega) (by omega) (by omega) (by omega)).1) rfl rfl (fun q h1 h2 => (sgK_cut (by omega) (by omega) (by omega) (by omega) (by omega) (by omega) (by omega) (by omega)).1) hlen hD (by omega)
 show wrapF .i64 (E.i 2 + 1) = _
 rw [wrapF_eq, IntKind.wrap_i64]; omega
theorem sgK0_lead {fr : List (Ky × V)} {B a b : Int} {n m : Nat} {EO : Nat → Env → Prop} (hends : Ends n a b EO) (h1 : WordsIs (E.s 100).cs 8192 f0) (h2 : WordsIs (E.s 200).cs 8192 f0) (hlen : E.i 1 = (E.s 0).len) {D : Nat → Int × Int × Int} (hD : RowA (E.s 0) D) (ha : E.i 20 = a) (hb : E.i 21 = b) (hB : 0 ≤ B) (hm : B < m) :
  Leads (stB fr) (InvB B a b n EO) E (nxB n sgK0) m := by
 exact leadB (x := 0) (s2 := .lit 0) hends okw0 h1 h2 rfl rfl rfl (Int.le_refl 0) hB rfl rfl ha hb rfl rfl rfl (fun i h1 h2 => (sgK_cut (j := 0) (by omega) (by omega) (by omega) (by omega) (by omega) (by omega) (by omega) (by omega)).2) rfl rfl (fun q h1 h2 => (sgK_cut (j := 0) (by omega) (by omega) (by omega) (by omega) (by omega) (by omega) (by omega) (by omega)).2) hlen hD (by omega)
theorem fs_app {l m : List (SB × Bool)} (h1 : FsOk E l) (h2 : FsOk E m) : FsOk E (l ++ m) := by
 induction l with
 | nil => exact h2
 | cons p r ih =>
  obtain ⟨c, b⟩ := p
  exact ⟨h1.1, ih h1.2⟩
end Go.Ev.X
end
/-
 SchedPriority: what is asked of its ends: threads told by symbols, who waits, how many.
-/
set_option linter.unusedSimpArgs false
set_option linter.unusedVariables false
set_option maxRecDepth 100000
noncomputable section
namespace Go.Ev.X
open Go Go.Ev Go.Proofs
variable {E : Env} {f : Nat → Int}
theorem tA_ok {ρ : Rho} {b : Nat} {x0 x1 x2 x3 x4 x5 x6 x7 x8 x9 x10 x11 x12 x13 : V} {v : TV} {r : Nat → Int} (h0 : x0.γ E ρ = .int .i64 v.st) (h1 : x1.γ E ρ = .int .i64 v.pr) (h2 : x2.γ E ρ = .int .i64 v.sl) (h3 : x3.γ E ρ = .bool v.q) (h4 : x4.γ E ρ = .int .i64 v.pv) (h5 : x5.γ E ρ = .int .i64 v.nx) (h6 : x6.γ E ρ = .int .i64 v.bl) (h7 : x7.γ E ρ = .int .i64 v.bd) (h8 : x8.γ E ρ = .bool v.g) (h9 : x9.γ E ρ = .bool v.c) (h10 : x10.γ E ρ = .int .i64 v.bo) (h11 : x11.γ E ρ = .int .i64 v.ha) (h12 : x12.γ E ρ = .int .i64 v.fk) (h13 : x13.γ E ρ = .int .i64 v.fa)
  (hr : ∀ j, j < 30 → E.i (b + j) = fldT v r j) : (tA b x0 x1 x2 x3 x4 x5 x6 x7 x8 x9 x10 x11 x12 x13).γ E ρ = thV v r :=
 thG h0 h1 h2 h3 h4 h5 h6 h7 h8 h9 h10 h11 h12 h13 (vsi (hr 14 (by omega))) (vsi (hr 15 (by omega))) (vsi (hr 16 (by omega))) (vsi (hr 17 (by omega))) (vsi (hr 18 (by omega))) (vsi (hr 19 (by omega))) (vsi (hr 20 (by omega))) (vsi (hr 21 (by omega))) (vsi (hr 22 (by omega))) (vsi (hr 23 (by omega))) (vsi (hr 24 (by omega))) (vsi (hr 25 (by omega))) (vsi (hr 26 (by omega))) (vsi (hr 27 (by omega))) (vsi (hr 28 (by omega))) (vsi (hr 29 (by omega)))
theorem tD_ok {ρ : Rho} {b : Nat} {v : TV} {r : Nat → Int} (hr : ∀ j, j < 30 → E.i (b + j) = fldT v r j) : (tD b).γ E ρ = thV v r :=
 tA_ok (vsi (hr 0 (by omega))) (vsi (hr 1 (by omega))) (vsi (hr 2 (by omega))) (vsb (sbq (hr 3 (by omega)))) (vsi (hr 4 (by omega))) (vsi (hr 5 (by omega))) (vsi (hr 6 (by omega))) (vsi (hr 7 (by omega))) (vsb (sbq (hr 8 (by omega)))) (vsb (sbq (hr 9 (by omega)))) (vsi (hr 10 (by omega))) (vsi (hr 11 (by omega))) (vsi (hr 12 (by omega))) (vsi (hr 13 (by omega))) hr
theorem lk_nx : ∀ {L : List Nat} {p i : Nat}, Lk f p L 0 → i < L.length → (getT f (L.getD i 0)).nx = (L.getD (i + 1) 0 : Nat)
 | [], p, i, h, hi => by simp at hi
 | t :: r, p, 0, h, hi => by
  obtain ⟨_, h2, _⟩ := h
  show (getT f t).nx = _
  rw [h2]
  cases r <;> rfl
 | t :: r, p, i + 1, h, hi => by
  have := lk_nx (i := i) h.2.2 (by simpa using hi)
  simpa using this
theorem len_le : ∀ {S L : List Nat}, L.Nodup → (∀ x ∈ L, x ∈ S) → L.length ≤ S.length
 | [], L, hn, h => by
  cases L with
  | nil => simp
  | cons a r => exact absurd (h a (by simp)) (by simp)
 | s :: S, L, hn, h => by
  by_cases hs : s ∈ L
  ·obtain ⟨a, b, rfl⟩ := List.append_of_mem hs
   obtain ⟨na, nb, nab⟩ := List.nodup_append.1 hn
   have nb' := List.nodup_cons.1 nb
   have hab : (a ++ b).Nodup := List.nodup_append.2 ⟨na, nb'.2, fun x hx y hy => nab x hx y (by simp [hy])⟩
   have := len_le (S := S) hab fun x hx => by
    have hx' : x ∈ a ++ s :: b := by
     rcases List.mem_append.1 hx with h1 | h1
     ·simp [h1]
     ·simp [h1]
    rcases List.mem_cons.1 (h x hx') with rfl | h2
    ·rcases List.mem_append.1 hx with h1 | h1
     ·exact absurd rfl (nab x h1 x (by simp))
     ·exact absurd h1 nb'.1
    ·exact h2
   simp at this ⊢; omega
  ·have := len_le (S := S) hn fun x hx => by
    rcases List.mem_cons.1 (h x hx) with rfl | h2
    ·exact absurd hx hs
    ·exact h2
   simp; omega
theorem len4 {L : List Nat} (hn : L.Nodup) (h : ∀ x ∈ L, TT x) : L.length ≤ 4 := len_le (S := thrL) hn fun x hx => TT_mem (h x hx)
theorem len3 {L : List Nat} {t : Nat} (hn : L.Nodup) (h : ∀ x ∈ L, TT x) (ht : TT t) (htn : t ∉ L) : L.length ≤ 3 := by
 have := len4 (L := t :: L) (List.nodup_cons.2 ⟨htn, hn⟩) fun x hx => by
  rcases List.mem_cons.1 hx with rfl | hx
  ·exact ht
  ·exact h x hx
 simp at this; omega
end Go.Ev.X
end
/-
 SchedPriority: how things stand behind a new priority; those who wait.
-/
set_option linter.unusedSimpArgs false
set_option linter.unusedVariables false
set_option maxRecDepth 100000
noncomputable section
namespace Go.Ev.X
open Go Go.Ev Go.Proofs
variable {E : Env} {f : Nat → Int} {Q : Nat → List Nat} {P : Nat → TV} {c t : Nat}
theorem symP_den {L : List Nat} (h0 : E.i 450 = (L.getD 0 0 : Nat)) (hs : ∀ i j, i < 5 → j < 30 → E.i (800 + 40 * i + j) = fldT (getT f (L.getD i 0)) (regs f (L.getD i 0)) j) (hlk : Lk f 0 L 0) : ∀ {i : Nat}, i < 5 → i < L.length → (symP i).den E = (L.getD i 0 : Nat)
 | 0, _, _ => h0
 | i + 1, h1, h2 => by
  have := hs i 5 (by omega) (by omega)
  show E.i (805 + 40 * i) = _
  rw [show 805 + 40 * i = 800 + 40 * i + 5 from by omega, this]
  exact lk_nx hlk (by omega)
theorem thr_ents {L : List Nat} (hL : ∀ x ∈ L, TT x) (hq : ∀ x ∈ L, RightAt f x) (hn : L.length ≤ 4) (hrow : ∀ q, 103 ≤ q → q < 200 → WordsIs (E.s q).cs 8192 f) (h0 : E.i 450 = (L.getD 0 0 : Nat)) (hs : ∀ i j, i < 5 → j < 30 → E.i (800 + 40 * i + j) = fldT (getT f (L.getD i 0)) (regs f (L.getD i 0)) j) (hlk : Lk f 0 L 0)
  (hk : ∀ i, i < 5 → E.i (325 + i) = if i < L.length then (20 : Int) else E.i (325 + i)) {last : Ent} (hlast : EntOk PP cP E (105 + L.length) last) : ∀ (m i : Nat), i + m = L.length → EntsOk PP cP E (105 + i) ((rngF i m).map (thrP L.length) ++ [last])
 | 0, i, h => by
  have h : i = L.length := by omega
  subst h
  exact ⟨hlast, trivial⟩
 | m + 1, i, h => by
  have hi : i < L.length := by omega
  have hmem : L.getD i 0 ∈ L := by
   rw [List.getD_eq_getElem?_getD, List.getElem?_eq_getElem hi]
   exact List.getElem_mem _
  have hsd := symP_den h0 hs hlk (i := i) (by omega) hi
  have hfl : ∀ j, j < 30 → E.i (800 + j + 40 * i) = fldT (getT f (L.getD i 0)) (regs f (L.getD i 0)) j := fun j hj => by
   rw [show 800 + j + 40 * i = 800 + 40 * i + j from by omega]; exact hs i j (by omega) hj
  refine ⟨?_, thr_ents hL hq hn hrow h0 hs hlk hk hlast m (i + 1) (by omega)⟩
  refine ent_g (k := 20) (hrow _ (by omega) (by omega)) (hrow _ (show 103 ≤ 106 + i by omega) (show 106 + i < 200 by omega)) (thr_p (hL _ hmem) (hq _ hmem)) (by omega) ?_ (fun ρ => arg1 (vsi hsd)) (fun ρ => tupT (tA_ok (vsi (hfl 0 (by omega))) (vsi (hfl 1 (by omega))) (vsi (hfl 2 (by omega))) (vsb (sbq (hfl 3 (by omega)))) (vsi (hfl 4 (by omega))) ?_ (vsi (hfl 6 (by omega))) (vsi (hfl 7 (by omega))) (vsb (sbq (hfl 8 (by omega)))) (vsb (sbq (hfl 9 (by omega)))) (vsi (hfl 10 (by omega))) (vsi (hfl 11 (by omega))) (vsi (hfl 12 (by omega))) (vsi (hfl 13 (by omega))) (fun j hj => hs i j (by omega) hj)))
  ·show E.i (325 + i) = _
   rw [hk i (by omega), if_pos hi]; rfl
  ·have := lk_nx hlk hi
   by_cases e : i + 1 = L.length
   ·rw [show Nat.beq (i + 1) L.length = true by simpa using e]
    show Value.int .i64 0 = _
    rw [this, List.getD_eq_getElem?_getD, List.getElem?_eq_none (by omega)]; rfl
   ·rw [show Nat.beq (i + 1) L.length = false by rw [Bool.eq_false_iff]; simpa using e]
    exact vsi (hfl 5 (by omega))
end Go.Ev.X
end
/-
 SchedPriority: for each state of the words an end that fits.
-/
set_option linter.unusedSimpArgs false
set_option linter.unusedVariables false
set_option maxRecDepth 100000
noncomputable section
namespace Go.Ev.X
open Go Go.Ev Go.Proofs
variable {E : Env} {f : Nat → Int}
theorem TE_den2 {a : Int} (h : E.i 300 = pickI a 4) : TE.den E = ((thrN a : Nat) : Int) := by
 have := pickI_lt (c := a) (n := 4) (by omega)
 show wrapF .i64 (1024 + wrapF .i64 (64 * E.i 300)) = _
 rw [h, wrapF_eq, wrapF_eq, IntKind.wrap_i64, IntKind.wrap_i64]
 unfold thrN
 omega
theorem neq_map {L : List Nat} (hz : ∀ i, i < 5 → i < L.length → (symP i).den E = (L.getD i 0 : Nat)) (hne : ∀ x ∈ L, x ≠ 0) (h4 : L.length ≤ 4) : ∀ (m i : Nat), i + m ≤ L.length → FsOk E ((rngF i m).map (fun i => ((.cmp .neq (symP i) (.lit 0) : SB), true)))
 | 0, i, h => trivial
 | m + 1, i, h => ⟨f_ne (by
   rw [hz i (by omega) (by omega)]
   have hm : L.getD i 0 ∈ L := by
    rw [List.getD_eq_getElem?_getD, List.getElem?_eq_getElem (by omega)]
    exact List.getElem_mem _
   have := hne _ hm
   show ((L.getD i 0 : Nat) : Int) ≠ 0
   omega), neq_map hz hne h4 m (i + 1) (by omega)⟩
end Go.Ev.X
end
/-
 SchedHighest: its runs.
-/
set_option linter.unusedSimpArgs false
set_option linter.unusedVariables false
set_option maxRecDepth 100000
noncomputable section
namespace Go.Ev.X
open Go Go.Ev Go.Proofs
def qh : Cut2 := ⟨(.seqR (.ops [.op (some k2) none (.mov (.c (.b false)))]) (.seqR (.ops [.call (some k18) none (.c (.fn 8 [] [])) [], .op (some k3) none (.mov (.s k18))]) (.seqR (.ops [.call (some k19) none (.c (.fn 9 [] [])) [], .op (some k4) none (.mov (.s k19))]) (.seqR (.seq (.ops [.op (some k20) none (.mov (.s k4)), .op (some k21) none (.bin .eql .ptr (.s k20) (.c .nil))]) (.cond k21 (.seq (.ops [.op (some k2) none (.mov (.c (.b false)))]) .ret) .skip)) .hole)))), (.seqR (.ops [.op (some k5) none (.mov (.c (.i .i64 0)))]) (.block 0 .hole)), (.seq (.seq (.ops [.op (some k22) none (.mov (.s k5)), .op (some k23) none (.mov (.s k0)), .op (some k24) none (.lens (.s k23)), .op (some k25) none (.bin .lss .num (.s k22) (.s k24)), .op (some k26) none (.mov (.s k25)), .op (some k27) (some (k26, true)) (.mov (.s k5)), .op (some k28) (some (k26, true)) (.bin .lss .num (.s k27) (.c (.i .i64 100))), .op (some k29) none (.pick (.s k26) (.s k28) (.c (.b false)))]) (.cond k29 .skip (.exit 0))) (.seq (.block 1 (.ops [.op (some k32) none (.mov (.s k4)), .op (some k33) none (.mov (.s k0)), .op (some k34) none (.mov (.s k5)), .op (some k35) none (.ixs 3 (.s k33) (.s k34)), .op (some k36) none (.ldn 3 (.s k35)), .call (some k37) none (.c (.fn 19 [] [])) [(.s k32), (.s k36)]])) (.ops [.op (some k30) none (.mov (.s k5)), .op (some k31) none (.bin .add .num (.s k30) (.c (.i .i64 1))), .op (some k5) none (.mov (.s k31))]))), (.seqR (.ops [.op (some k38) none (.mov (.s k4)), .op (some k39) none (.nilc (.s k38)), .op (some k40) none (.fad 0 (.s k39)), .op (some k41) none (.ld (.s k40)), .call (some k42) none (.c (.fn 13 [] [])) [(.s k41)]]) (.seqR (.ops [.op (some k43) none (.mov (.s k4)), .op (some k44) none (.nilc (.s k43)), .op (some k45) none (.fad 0 (.s k44)), .op (some k46) none (.ld (.s k45)), .call (some k47) none (.c (.fn 15 [] [])) [(.s k46)], .op (some k6) none (.mov (.s k47))]) (.seqR (.ops [.op (some k7) none (.mov (.c (.i .i64 (-1))))]) (.seqR (.seq (.ops [.op (some k48) none (.mov (.s k6)), .op (some k49) none (.bin .neq .num (.s k48) (.c (.i .i64 0)))]) (.cond k49 (.seq (.ops [.op (some k51) none (.mov (.s k4)), .op (some k52) none (.nilc (.s k51)), .op (some k53) none (.fad 0 (.s k52)), .op (some k54) none (.ld (.s k53)), .op (some k55) none (.mov (.s k6)), .call (some k56) none (.c (.fn 18 [] [])) [(.s k54), (.s k55)], .op (some k50) none (.mov (.s k56)), .op (some k57) none (.ext (.s k50) 0), .op (some k58) none (.ext (.s k50) 1), .op (some k8) none (.new 40 [(.i .i64 0), (.i .i64 0), (.i .i64 0), (.b false), (.i .i64 0), (.i .i64 0), (.i .i64 0), (.i .i64 0), (.b false), (.b false), (.i .i64 0), (.i .i64 0), (.i .i64 0), (.i .i64 0), (.i .u64 0), (.i .u64 0), (.i .u64 0), (.i .u64 0), (.i .u64 0), (.i .u64 0), (.i .u64 0), (.i .u64 0), (.i .u64 0), (.i .u64 0), (.i .u64 0), (.i .u64 0), (.i .u64 0), (.i .u64 0), (.i .u64 0), (.i .u64 0)]), .op none none (.st 30 (.s k8) (.s k57)), .op (some k9) none (.mov (.s k58))]) (.seq (.seq (.ops [.op (some k59) none (.mov (.s k9)), .op (some k60) none (.bin .neq .num (.s k59) (.c (.i .i64 0))), .op (some k61) none (.mov (.s k60)), .op (some k62) (some (k61, false)) (.fad 0 (.s k8)), .op (some k63) (some (k61, false)) (.ld (.s k62)), .op (some k64) (some (k61, false)) (.bin .neq .num (.s k63) (.c (.i .i64 1))), .op (some k65) none (.pick (.s k61) (.c (.b true)) (.s k64)), .op (some k66) none (.mov (.s k65)), .op (some k67) (some (k66, false)) (.fad 3 (.s k8)), .op (some k68) (some (k66, false)) (.ld (.s k67)), .op (some k69) none (.pick (.s k66) (.c (.b true)) (.s k68))]) (.cond k69 (.seq (.ops [.op (some k2) none (.mov (.c (.b false)))]) .ret) .skip)) (.ops [.op (some k70) none (.fad 1 (.s k8)), .op (some k71) none (.ld (.s k70)), .op (some k7) none (.mov (.s k71))]))) .skip)) (.seqL (.seqR (.ops [.op (some k10) none (.mov (.c (.i .i64 0)))]) (.block 2 .hole)) (.seq (.ops [.op (some k139) none (.mov (.s k3)), .op (some k2) none (.mov (.s k139))]) .ret)))))), (.seq (.seq (.ops [.op (some k72) none (.mov (.s k10)), .op (some k73) none (.bin .lss .num (.s k72) (.c (.i .i64 4)))]) (.cond k73 .skip (.exit 2))) (.seq (.block 3 (.seq (.ops [.op (some k76) none (.mov (.s k10)), .call (some k77) none (.c (.fn 10 [] [])) [(.s k76)], .op (some k11) none (.mov (.s k77))]) (.seq (.ops [.op (some k79) none (.mov (.s k4)), .op (some k80) none (.nilc (.s k79)), .op (some k81) none (.fad 0 (.s k80)), .op (some k82) none (.ld (.s k81)), .op (some k83) none (.mov (.s k11)), .call (some k84) none (.c (.fn 18 [] [])) [(.s k82), (.s k83)], .op (some k78) none (.mov (.s k84)), .op (some k85) none (.ext (.s k78) 0), .op (some k86) none (.ext (.s k78) 1), .op (some k12) none (.new 40 [(.i .i64 0), (.i .i64 0), (.i .i64 0), (.b false), (.i .i64 0), (.i .i64 0), (.i .i64 0), (.i .i64 0), (.b false), (.b false), (.i .i64 0), (.i .i64 0), (.i .i64 0), (.i .i64 0), (.i .u64 0), (.i .u64 0), (.i .u64 0), (.i .u64 0), (.i .u64 0), (.i .u64 0), (.i .u64 0), (.i .u64 0), (.i .u64 0), (.i .u64 0), (.i .u64 0), (.i .u64 0), (.i .u64 0), (.i .u64 0), (.i .u64 0), (.i .u64 0)]), .op none none (.st 30 (.s k12) (.s k85)), .op (some k13) none (.mov (.s k86))]) (.seq (.seq (.qops [.op (some k88) none (.mov (.s k4)), .op (some k89) none (.nilc (.s k88)), .op (some k90) none (.fad 0 (.s k89)), .op (some k91) none (.ld (.s k90)), .op (some k92) none (.fad 1 (.s k12)), .op (some k93) none (.ld (.s k92))]) (.seq (.ops [.call (some k94) none (.c (.fn 20 [] [])) [(.s k91), (.s k93)]]) (.qops [.op (some k87) none (.mov (.s k94)), .op (some k95) none (.ext (.s k87) 0), .op (some k96) none (.ext (.s k87) 1), .op (some k14) none (.mov (.s k95)), .op (some k15) none (.mov (.s k96))]))) (.seq (.ops [.op (some k16) none (.mov (.c (.b false)))]) (.seq (.seq (.ops [.op (some k17) none (.mov (.c (.i .i64 0)))]) (.block 4 (.loop (.seq (.seq (.ops [.op (some k97) none (.mov (.s k17)), .op (some k98) none (.mov (.s k14)), .op (some k99) none (.lens (.s k98)), .op (some k100) none (.bin .lss .num (.s k97) (.s k99))]) (.cond k100 .skip (.exit 4))) (.seq (.block 5 (.ops [.op (some k103) none (.mov (.s k16)), .op (some k104) none (.mov (.s k103)), .op (some k105) (some (k104, false)) (.mov (.s k14)), .op (some k106) (some (k104, false)) (.mov (.s k17)), .op (some k107) (some (k104, false)) (.ixs 1 (.s k105) (.s k106)), .op (some k108) (some (k104, false)) (.ld (.s k107)), .op (some k109) (some (k104, false)) (.mov (.s k11)), .op (some k110) (some (k104, false)) (.bin .eql .num (.s k108) (.s k109)), .op (some k111) none (.pick (.s k104) (.c (.b true)) (.s k110)), .op (some k16) none (.mov (.s k111))])) (.ops [.op (some k101) none (.mov (.s k17)), .op (some k102) none (.bin .add .num (.s k101) (.c (.i .i64 1))), .op (some k17) none (.mov (.s k102))])))))) (.seq (.ops [.op (some k112) none (.mov (.s k13)), .op (some k113) none (.bin .neq .num (.s k112) (.c (.i .i64 0))), .op (some k114) none (.mov (.s k113)), .op (some k115) (some (k114, false)) (.mov (.s k15)), .op (some k116) (some (k114, false)) (.bin .neq .num (.s k115) (.c (.i .i64 0))), .op (some k117) none (.pick (.s k114) (.c (.b true)) (.s k116)), .op (some k118) none (.mov (.s k117)), .op (some k119) (some (k118, false)) (.mov (.s k16)), .op (some k120) (some (k118, false)) (.fad 0 (.s k12)), .op (some k121) (some (k118, false)) (.ld (.s k120)), .op (some k122) (some (k118, false)) (.bin .eql .num (.s k121) (.c (.i .i64 1))), .op (some k123) (some (k118, false)) (.mov (.s k122)), .op (some k124) (some (k123, true)) (.mov (.s k11)), .op (some k125) (some (k123, true)) (.mov (.s k6)), .op (some k126) (some (k123, true)) (.bin .neq .num (.s k124) (.s k125)), .op (some k127) (some (k118, false)) (.pick (.s k123) (.s k126) (.c (.b false))), .op (some k128) (some (k118, false)) (.bin .neq .bool (.s k119) (.s k127)), .op (some k129) none (.pick (.s k118) (.c (.b true)) (.s k128)), .op (some k130) none (.mov (.s k129)), .op (some k131) (some (k130, false)) (.mov (.s k16)), .op (some k132) (some (k130, false)) (.mov (.s k131)), .op (some k133) (some (k132, true)) (.fad 1 (.s k12)), .op (some k134) (some (k132, true)) (.ld (.s k133)), .op (some k135) (some (k132, true)) (.mov (.s k7)), .op (some k136) (some (k132, true)) (.bin .gtr .num (.s k134) (.s k135)), .op (some k137) (some (k130, false)) (.pick (.s k132) (.s k136) (.c (.b false))), .op (some k138) none (.pick (.s k130) (.c (.b true)) (.s k137))]) (.cond k138 (.seq (.ops [.op (some k2) none (.mov (.c (.b false)))]) .ret) .skip)))))))) (.ops [.op (some k74) none (.mov (.s k10)), .op (some k75) none (.bin .add .num (.s k74) (.c (.i .i64 1))), .op (some k10) none (.mov (.s k75))]))), [.tmp k2]⟩
def frH : List (Ky × V) := [(k0, .fs q1 0), (k3, .b true), (k4, .ptr q1379 0), (k5, .si .i64 (.v 2))]
def frH2 : List (Ky × V) := [(k3, .b true), (k4, .ptr q1379 0), (k6, .si .i64 (.v 400)), (k7, .si .i64 (.v 401)), (k10, .si .i64 (.v 40))]
def hB2 : H := ⟨q1380, q2, (((((((PT.e : PT O).set q1 (.row 0 3 (.v 1) (.v 2) [])).set q2 (.oa 37 200 8192 13 .nil)).set q3 (.cells 61 [.sl q2 0 8192 8192, .si .i64 (.v 6)])).set q1377 (.oa 37 103 8192 13 .nil)).set q1378 (.cells 97 [.sl q1377 0 8192 8192, .si .i64 (.v 5)])).set q1379 (.cells 31 [.ptr q1378 0, .ptr q3 0]))⟩
def st2H (_ : Nat) : GS := ⟨frH2, hB2⟩
def nxH (σ : Sg) : List (Nat × Sg) := (rng 31).map fun j => (j, σ)
def esE (e : Nat) : List Ent := ⟨13, [], 101, .tup [], .v 320⟩ :: ⟨15, [], 102, .si .i64 (.v 400), .v 321⟩ :: (bif Nat.beq e 0 then [] else [⟨18, [.si .i64 (.v 400)], 103, .tup [tD 500, .i .i64 0], .v 322⟩])
def fEh (e : Nat) : List (SB × Bool) := bif Nat.beq e 0 then [(.cmp .neq (.v 400) (.lit 0), false)] else [(.cmp .neq (.v 400) (.lit 0), true), (.cmp .neq (.v 500) (.lit 1), false), (.cmp .eql (.v 503) (.lit 1), false)]
def s5E (e : Nat) : SE := bif Nat.beq e 0 then .op .add .i64 (.op .add .i64 (.v 5) (.v 320)) (.v 321) else .op .add .i64 (.op .add .i64 (.op .add .i64 (.v 5) (.v 320)) (.v 321)) (.v 322)
def sgO (e : Nat) : Sg := sgL [(1, .v 1), (5, s5E e), (6, .v 6), (40, .lit 0), (400, .v 400), (401, bif Nat.beq e 0 then .lit (-1) else .v 501), (100103, .lit (.ofNat (102 + e))), (100200, .lit 200)]
def cxEh (e : Nat) : Cx := cxM cx0 cP 100 (esE e) []
def gEh (e : Nat) : Ctx := ⟨callT (cxEh e) 20, 5, 20000⟩
def outH (e : Nat) (b : Bool) : Nat := runZ (stB frH) qh.x1 (qh.end1 (gEh e) st2H (nxH (sgO e))) (gEh e) (11 + e) ⟨fO 100 b ++ fEh e, []⟩ []
def gAh (j : Nat) : Ctx := ⟨callT (cxA j) 20, 5, 20000⟩
def goHa (j : Nat) : Nat := runZ (stB frH) qh.x1 (qh.end1 (gAh j) st2H []) (gAh j) j ⟨fG 100 j, []⟩ (nxB 2 (sgK j))
def nJ (j : Nat) : Nat := Nat.div j 6
def aJ (j : Nat) : Nat := Nat.mod j 6
def okJ (j : Nat) : Bool := Nat.blt (aJ j) (nJ j) && Nat.blt (aJ j) 4 || Nat.ble 4 (aJ j) && Nat.ble (nJ j) 3
def esH (n : Nat) : List Ent := ⟨18, [.si .i64 TE], 104, .tup [tD 500, .i .i64 0], .v 321⟩ :: ⟨16, [.si .i64 (.v 501)], 105, bif Nat.beq n 0 then .i .i64 0 else .si .i64 (.v 450), .v 324⟩ :: ((rng n).map (thrP n) ++ [⟨15, [], 106 + n + 1, .si .i64 (.v 400), .v (325 + n)⟩])
def pH : PEnt := ⟨27, [.si .i64 (.v 40), .i .i64 4], .si .i64 (.v 300)⟩
def fT (a : Nat) : List (SB × Bool) := match a with
 | 4 => [(.cmp .eql (.v 500) (.lit 1), false)]
 | 5 => [(.cmp .eql (.v 500) (.lit 1), true), (.cmp .neq TE (.v 400), false)]
 | _ => [(.cmp .eql (.v 500) (.lit 1), true), (.cmp .neq TE (.v 400), true), (.cmp .gtr (.v 501) (.v 401), false)]
def fHi (n a : Nat) : List (SB × Bool) := (.cmp .lss (.v 40) (.lit 4), true) :: (.cmp .lss (.v 501) (.lit 0), false) :: (.cmp .geq (.v 501) (.lit 256), false) :: (.cmp .gtr (.v 501) (.lit 255), false) ::
 ((rng n).map (fun i => (.cmp .neq (symP i) (.lit 0), true)) ++ ((rng n).map (fun i => (.cmp .eql (symP i) TE, Nat.beq i a)) ++ fT a))
def sumH : Nat → SE
 | 0 => .op .add .i64 (.op .add .i64 (.v 5) (.v 321)) (.v 324)
 | n + 1 => .op .add .i64 (sumH n) (.v (325 + n))
def sgH (n : Nat) : Sg := sgL [(1, .v 1), (5, sumH n), (6, .v 6), (40, .op .add .i64 (.v 40) (.lit 1)), (400, .v 400), (401, .v 401), (100103, .lit (.ofNat (105 + n))), (100200, .lit 200)]
def cxH (j : Nat) : Cx := cxM cx0 cP 103 (esH (nJ j)) [pH]
def gH (j : Nat) : Ctx := ⟨callT (cxH j) 20, 5, 20000⟩
def goH (j : Nat) : Nat := runZ st2H qh.x2 (qh.end2 (gH j)) (gH j) j ⟨fHi (nJ j) (aJ j), []⟩ (nxH (sgH (nJ j)))
def gZ : Ctx := ⟨callT cx0 20, 5, 20000⟩
def endH : Nat := runZ st2H qh.x2 (qh.end2 gZ) gZ 30 ⟨[(.cmp .lss (.v 40) (.lit 4), false)], []⟩ []
def inH : Nat := initFr [.fs q1 0] (fun fr => zIn qh.z0 ⟨inA, 5, 20000⟩ fr hIn ⟨[], []⟩ (fun fr h fa => zIn qh.z1 ⟨inA, 5, 20000⟩ fr h fa (fun fr h _ => nextK (stB frH) (nxB 2 sgK0) fr h) (kLoop qh.z2 ⟨inA, 5, 20000⟩ st2H [] (zOut qh.z0 ⟨inA, 5, 20000⟩ (koB qh.rs)))) (koB qh.rs))
def nilH : Nat := callS cx0 0 (memoS ab (callAx call1)) 5 [.snil] ⟨.h, .h, .e⟩ ⟨[], []⟩ (endV (.b true))
theorem qch : cut2X (tyOf Tryz.prog) dr5 Tryz.f5 = some qh := by kernel_rfl
theorem goHa_ok : allB (fun j => Nat.beq (goHa (j + 1)) 0) (rng 10) = true := by decide +kernel
theorem outH_ok : allB (fun e => Nat.beq (outH e true) 0 && Nat.beq (outH e false) 0) (rng 2) = true := by decide +kernel
theorem goH_ok : allB (fun j => bif okJ j then Nat.beq (goH j) 0 else true) (rng 30) = true := by decide +kernel
theorem endH_ok : endH = 0 := by decide +kernel
theorem inH_ok : inH = 0 := by decide +kernel
theorem nilH_ok : nilH = 0 := by decide +kernel
end Go.Ev.X
end
/-
 SchedHighest: how things stand when it has settled; from state to state of the second loop.
-/
set_option linter.unusedSimpArgs false
set_option linter.unusedVariables false
set_option maxRecDepth 100000
noncomputable section
namespace Go.Ev.X
open Go Go.Ev Go.Proofs
variable {E : Env} {f f' : Nat → Int} {Q : Nat → List Nat} {P : Nat → TV} {c t : Nat}
def Sett (Q : Nat → List Nat) (P : Nat → TV) (c : Nat) : Prop := (c = 0 → ∀ p, p < 256 → Q p = []) ∧ (c ≠ 0 → ∀ p : Nat, p < 256 → Q p ≠ [] → (p : Int) ≤ (P c).pr)
theorem settle_h (h : OkW f) : ∃ f' Q P c, SS TT f' Q P c ∧ Sett Q P c ∧ MemE PP cP 13 [] f (.tuple #[]) f' := by
 obtain ⟨Q, P, c, s, hs⟩ := h
 obtain ⟨o, ho, hp⟩ := high_p s.q
 cases ho with
 | none hz => exact ⟨f, Q, P, c, s, ⟨fun _ => hz, fun _ p h1 h2 => absurd (hz p h1) h2⟩, settle0_p s hp⟩
 | some p hp256 hne hab =>
  match hQ : Q p, hne with
  | h :: r, _ =>
   have e : topH Q (some p) = (h : Int) := by show ((hdN (Q p) 0 : Nat) : Int) = h; rw [hQ]; rfl
   rw [e] at hp
   obtain ⟨hT, hpr, hq⟩ := s.q.el p h hp256 (by rw [hQ]; simp)
   rw [s.pr hT] at hpr
   have hlo := TT_thr.lo h hT
   have top : ∀ q, q < 256 → Q q ≠ [] → q ≤ p := fun q h1 h2 => by
    rcases Nat.lt_or_ge p q with h3 | h3
    ·exact absurd (hab q h3 h1) h2
    ·exact h3
   have top1 : ∀ q, q < 256 → setP Q p r q ≠ [] → q ≤ p := fun q h1 h2 => by
    by_cases e : q = p
    ·omega
    ·rw [setP_other _ _ e] at h2; exact top q h1 h2
   obtain ⟨g1, g2, g3⟩ := settle_S TT_thr s hp256 hQ
   have hc := settle_cp s hT hq hp
   by_cases h0 : c = 0
   ·exact ⟨settleA f h, _, _, _, g1 h0, ⟨fun h => absurd h (by omega), fun _ q h1 h2 => by have := top1 q h1 h2; rw [hpr]; omega⟩, hc⟩
   ·by_cases hle : (P h).pr ≤ (P c).pr
    ·rw [g2 h0 hle] at hc
     exact ⟨f, Q, P, c, s, ⟨fun h => absurd h h0, fun _ q h1 h2 => by have := top q h1 h2; omega⟩, hc⟩
    ·refine ⟨settleA f h, _, _, _, g3 h0 hle, ⟨fun h => absurd h (by omega), fun _ q h1 h2 => ?_⟩, hc⟩
     by_cases e : q = (P c).pr.toNat
     ·rw [hpr] at hle ⊢; omega
     ·rw [setP_other _ _ e] at h2
      have := top1 q h1 h2; rw [hpr]; omega
def EOh (e : Nat) (E : Env) : Prop := EntsOk PP cP E 100 (esE e) ∧ FsOk E (fEh e) ∧ e < 2 ∧ ∃ f Q P c, SS TT f Q P c ∧ Sett Q P c ∧ WordsIs (E.s (102 + e)).cs 8192 f ∧ E.i 400 = (c : Int) ∧ (e = 0 → c = 0) ∧ (e ≠ 0 → c ≠ 0 ∧ E.i 501 = (P c).pr)
def vsE (k0 k1 c : Nat) (f : Nat → Int) (i : Nat) : Int := if i = 320 then k0 else if i = 321 then k1 else if i = 322 then 20 else if i = 400 then c else fldT (getT f c) (regs f c) (i - 500)
theorem vsE_5 {k0 k1 c : Nat} {f : Nat → Int} {j : Nat} : vsE k0 k1 c f (500 + j) = fldT (getT f c) (regs f c) j := by
 unfold vsE
 repeat rw [if_neg (by omega)]
 rw [show 500 + j - 500 = j from by omega]
theorem ends_h : Ends 2 0 0 EOh := fun f hf => by
 obtain ⟨f', Q, P, c, s, hst, k0, p0, c0⟩ := settle_h hf
 obtain ⟨k1, p1, c1⟩ := cur_p s.ct s.cur
 have key : ∀ e, e < 2 → (∀ E : Env, E.i 400 = (c : Int) → (∀ j, j < 30 → E.i (500 + j) = fldT (getT f' c) (regs f' c) j) → E.i 322 = 20 → (∀ q, 101 ≤ q → q < 200 → WordsIs (E.s q).cs 8192 f') →
   EntsOk PP cP E 102 (bif Nat.beq e 0 then [] else [⟨18, [.si .i64 (.v 400)], 103, .tup [tD 500, .i .i64 0], .v 322⟩]) ∧ FsOk E (fEh e) ∧ (e = 0 → c = 0) ∧ (e ≠ 0 → c ≠ 0 ∧ E.i 501 = (P c).pr)) → ∃ e vs rows, e < 2 ∧ ∀ E, EndE E f 0 0 vs rows → EOh e E := by
  intro e he hk
  refine ⟨e, vsE k0 k1 c f', fun _ => rowF 8192 f', he, fun E h => ?_⟩
  have r : ∀ q, 101 ≤ q → q < 200 → WordsIs (E.s q).cs 8192 f' := fun q h1 h2 => by
   rw [h.s q h1 h2]; exact rowF_is _ _
  have i400 : E.i 400 = (c : Int) := (h.i 400 (by omega) (by omega)).trans rfl
  obtain ⟨g1, g2, g3, g4⟩ := hk E i400 (fun j hj => (h.i _ (by omega) (by omega)).trans vsE_5) ((h.i 322 (by omega) (by omega)).trans rfl) r
  refine ⟨⟨ent_g h.p (r 101 (by omega) (by omega)) c0 p0 ((h.i 320 (by omega) (by omega)).trans rfl) (fun ρ => rfl) (fun ρ => rfl),
   ent_g (r 101 (by omega) (by omega)) (r 102 (by omega) (by omega)) c1 p1 ((h.i 321 (by omega) (by omega)).trans rfl) (fun ρ => rfl) (fun ρ => vsi i400), g1⟩, g2, he, f', Q, P, c, s, hst, r _ (by omega) (by omega), i400, g3, g4⟩
 by_cases h0 : c = 0
 ·exact key 0 (by omega) fun E i400 h5 h322 r => ⟨trivial, ⟨f_nen (by show E.i 400 = 0; omega), trivial⟩, fun _ => h0, fun h => absurd rfl h⟩
 ·have hc := s.ct.resolve_left h0
  have th := thr_p hc (s.q.thr _ hc)
  exact key 1 (by omega) fun E i400 h5 h322 r => ⟨⟨ent_g (r 102 (by omega) (by omega)) (r 103 (by omega) (by omega)) th (by omega) h322 (fun ρ => arg1 (vsi i400)) (fun ρ => tupT (tD_ok h5)), trivial⟩,
   ⟨f_ne (by show E.i 400 ≠ 0; omega), f_nen (by
    show E.i 500 = 1
    rw [h5 0 (by omega)]
    show (getT f' c).st = 1
    rw [s.st hc]
    exact (s.run c hc).2 (.inl rfl)), f_eqn (by
    show E.i 503 ≠ 1
    rw [h5 3 (by omega)]
    show b2 (getT f' c).q ≠ 1
    rw [s.nc hc]
    decide), trivial⟩, fun h => absurd h (by omega), fun _ => ⟨h0, by
    rw [h5 1 (by omega)]
    exact s.pr hc⟩⟩
def topI (P : Nat → TV) (c : Nat) : Int := if c = 0 then -1 else (P c).pr
def InvH (m j : Nat) (E : Env) : Prop := ∃ f Q P c, SS TT f Q P c ∧ Sett Q P c ∧ E.i 400 = (c : Int) ∧ E.i 401 = topI P c ∧ 0 ≤ E.i 40 ∧ (m : Int) + E.i 40 = 4 ∧
 ((j = 30 ∧ E.i 40 = 4) ∨ (j < 30 ∧ okJ j = true ∧ E.i 40 < 4 ∧ EntsOk PP cP E 103 (esH (nJ j)) ∧ PsOk PP E [pH] ∧ FsOk E (fHi (nJ j) (aJ j)) ∧ WordsIs (E.s (105 + nJ j)).cs 8192 f))
def vsH (x : Int) (k4 k5 : Nat) (f : Nat → Int) (t : Nat) (L : List Nat) (i : Nat) : Int :=
 if i = 300 then pickI x 4
 else if i = 321 then 20
 else if i = 324 then k4
 else if i < 400 then (if i - 325 < L.length then 20 else k5)
 else if i = 450 then (L.getD 0 0 : Nat)
 else if i < 800 then fldT (getT f t) (regs f t) (i - 500)
 else fldT (getT f (L.getD ((i - 800) / 40) 0)) (regs f (L.getD ((i - 800) / 40) 0)) ((i - 800) % 40)
theorem vsH_lo {x : Int} {k4 k5 : Nat} {f : Nat → Int} {t : Nat} {L : List Nat} {i : Nat} (h : i < 5) : vsH x k4 k5 f t L (325 + i) = if i < L.length then (20 : Int) else (k5 : Int) := by
 unfold vsH
 rw [if_neg (by omega), if_neg (by omega), if_neg (by omega), if_pos (by omega), show 325 + i - 325 = i from by omega]
theorem vsH_5 {x : Int} {k4 k5 : Nat} {f : Nat → Int} {t : Nat} {L : List Nat} {j : Nat} (h : j < 30) : vsH x k4 k5 f t L (500 + j) = fldT (getT f t) (regs f t) j := by
 unfold vsH
 rw [if_neg (by omega), if_neg (by omega), if_neg (by omega), if_neg (by omega), if_neg (by omega), if_pos (by omega), show 500 + j - 500 = j from by omega]
theorem vsH_8 {x : Int} {k4 k5 : Nat} {f : Nat → Int} {t : Nat} {L : List Nat} {i j : Nat} (h : j < 30) : vsH x k4 k5 f t L (800 + 40 * i + j) = fldT (getT f (L.getD i 0)) (regs f (L.getD i 0)) j := by
 unfold vsH
 rw [if_neg (by omega), if_neg (by omega), if_neg (by omega), if_neg (by omega), if_neg (by omega), if_neg (by omega), show (800 + 40 * i + j - 800) / 40 = i from by omega, show (800 + 40 * i + j - 800) % 40 = j from by omega]
theorem eq_map {a t : Nat} {L : List Nat} (hT : TE.den E = (t : Int)) (hz : ∀ i, i < 5 → i < L.length → (symP i).den E = (L.getD i 0 : Nat)) (h4 : L.length ≤ 4) (ha : ∀ i, i < L.length → (L.getD i 0 = t ↔ i = a)) : ∀ (m i : Nat), i + m ≤ L.length → FsOk E ((rngF i m).map (fun i => ((.cmp .eql (symP i) TE : SB), Nat.beq i a)))
 | 0, i, h => trivial
 | m + 1, i, h => by
  refine ⟨?_, eq_map hT hz h4 ha m (i + 1) (by omega)⟩
  have h1 := ha i (by omega)
  by_cases e : i = a
  ·rw [show Nat.beq i a = true by simpa using e]
   exact f_eq (by rw [hz i (by omega) (by omega), hT, h1.2 e])
  ·rw [show Nat.beq i a = false by rw [Bool.eq_false_iff]; simpa using e]
   refine f_eqn ?_
   rw [hz i (by omega) (by omega), hT]
   intro h2
   exact e (h1.1 (by omega))
theorem pH_ok {a : Int} (ha : I64 a) (h40 : E.i 40 = a) (h3 : E.i 300 = pickI a 4) : PEntOk PP E pH :=
 ⟨trivial, Tryz.call27, fun ρ w => by
  have := pick_c (P := PP) (fun _ => rowF 0 (fun _ => 0)) (fun E _ => hC0 E) (fun E _ => noC) pk4_0 pk4_1 ha w
  refine (show Calls PP 27 (γL E ρ [.si .i64 (.v 40), .i .i64 4]).toArray w _ from ?_)
  have hargs : (γL E ρ [.si .i64 (.v 40), .i .i64 4]).toArray = #[.int .i64 a, .int .i64 4] := by simp only [γL, V.γ, SE.den, h40]
  rw [hargs]
  refine this.mono ?_
  rintro ex w' ⟨rfl, hb⟩
  refine ⟨?_, hb⟩
  simp only [pH, V.γ, SE.den, h3]⟩
theorem mem_nxH {σ : Sg} {j : Nat} (h : j < 31) : (j, σ) ∈ nxH σ := List.mem_map.2 ⟨j, mem_rngF (by omega) (by omega), rfl⟩
theorem hB2_end : rowU hB2 = true := by decide +kernel
theorem nd_pos {L a' b' : List Nat} {t : Nat} (hn : L.Nodup) (hL : L = a' ++ t :: b') : ∀ i, i < L.length → (L.getD i 0 = t ↔ i = a'.length) := fun i hi => by
 have ht : L.getD a'.length 0 = t := by rw [hL]; simp [List.getD]
 have hp := List.pairwise_iff_getElem.1 hn
 have hlen : a'.length < L.length := by rw [hL]; simp
 have e : ∀ i (hi : i < L.length), L.getD i 0 = L[i] := fun i hi => by
  rw [List.getD_eq_getElem?_getD, List.getElem?_eq_getElem hi]; rfl
 constructor
 ·intro h
  rcases Nat.lt_trichotomy i a'.length with h1 | h1 | h1
  ·exact absurd (by rw [← e i hi, ← e _ hlen, h, ht]) (hp i _ hi hlen h1)
  ·exact h1
  ·exact absurd (by rw [← e i hi, ← e _ hlen, h, ht]) (hp _ i hlen hi h1)
 ·rintro rfl; exact ht
theorem leadH {σ : Sg} {m r : Nat} {x : Int} (s : SS TT f Q P c) (hst : Sett Q P c) (hr : WordsIs (E.s r).cs 8192 f) {s40 s400 s401 : SE} (g40 : σ 40 = some s40) (h40 : s40.den E = x) (hx : 0 ≤ x ∧ x ≤ 4) (g400 : σ 400 = some s400) (h400 : s400.den E = (c : Int)) (g401 : σ 401 = some s401) (h401 : s401.den E = topI P c)
  (gr : σ 100103 = some (.lit (.ofNat r))) (nf : ∀ i, 300 ≤ i → i < 100000 → i ≠ 400 → i ≠ 401 → σ i = none) (nr : ∀ q, 104 ≤ q → q < 200 → σ (100000 + q) = none) (hm : 4 - x < m) : Leads st2H InvH E (nxH σ) m := by
 intro _
 have key : ∀ vs : Nat → Int, ∃ E', TrE σ E E' ∧ E'.i 40 = x ∧ E'.i 400 = (c : Int) ∧ E'.i 401 = topI P c ∧ (∀ i, 300 ≤ i → i < 100000 → i ≠ 400 → i ≠ 401 → E'.i i = vs i) ∧ (∀ q, 103 ≤ q → q < 200 → WordsIs (E'.s q).cs 8192 f) := fun vs => by
  have t := nxA_tr σ E 0 vs (fun _ => rowF 8192 f)
  refine ⟨nxA σ E 0 vs (fun _ => rowF 8192 f), t, (t.i 40 _ g40).trans h40, (t.i 400 _ g400).trans h400, (t.i 401 _ g401).trans h401, fun i h1 h2 h3 h4 => by simp [nxA, nf i h1 h2 h3 h4], fun q h1 h2 => ?_⟩
  rw [nxA_s]
  unfold nxS
  rw [if_neg (by omega)]
  by_cases e : q = 103
  ·subst e
   rw [show 100000 + 103 = 100103 from rfl, gr]; exact hr
  ·rw [nr q (by omega) h2]; exact rowF_is _ _
 by_cases hx4 : x = 4
 ·obtain ⟨E', t, e40, e400, e401, _, _⟩ := key (fun _ => 0)
  exact ⟨30, σ, 0, E', mem_nxH (by omega), by omega, ⟨f, Q, P, c, s, hst, e400, e401, by omega, by omega, .inl ⟨rfl, by omega⟩⟩, t, rowU_ok hB2_end⟩
 have hxI : I64 x := by unfold I64; omega
 obtain ⟨t, htt⟩ : ∃ t, t = thrN x := ⟨_, rfl⟩
 have ht : TT t := by rw [htt]; exact thrN_tt x
 have th := thr_p ht (s.q.thr _ ht)
 obtain ⟨hp256, hpN⟩ := s.prN ht
 obtain ⟨k4, p4, c4⟩ := fronts_p hp256 (q_w64 TT_thr s.q hp256).1
 rw [headOf_eq TT_thr s.q hp256, hpN] at c4
 obtain ⟨k5, p5, c5⟩ := cur_p s.ct s.cur
 have hel := fun u hu => s.q.el (P t).pr.toNat u hp256 hu
 have hnd := s.q.nd _ hp256
 have hlk := s.q.lk _ hp256
 have hin := s.inQ ht
 have hset := hst.2
 have hset0 := hst.1
 have hse := fun h => hset h _ hp256
 have hse0 := fun h => hset0 h _ hp256
 generalize hL : Q (P t).pr.toNat = L at *
 have hTT : ∀ x ∈ L, TT x := fun x hx => (hel x hx).1
 have h4 := len4 hnd hTT
 have hne : ∀ x ∈ L, x ≠ 0 := fun x hx => by have := TT_thr.lo x (hTT x hx); omega
 have hhd : hdN L 0 = L.getD 0 0 := by cases L <;> rfl
 have key2 : ∀ a, a < 6 → okJ (6 * L.length + a) = true → (∀ i, i < L.length → (L.getD i 0 = t ↔ i = a)) → (∀ E' : Env, E'.i 500 = (P t).st → E'.i 501 = (P t).pr → TE.den E' = (t : Int) → E'.i 400 = (c : Int) → E'.i 401 = topI P c → FsOk E' (fT a)) →
   ∃ j σ' m' E', (j, σ') ∈ nxH σ ∧ m' < m ∧ InvH m' j E' ∧ TrE σ' E E' ∧ ∀ p o, (st2H j).h.t.get p = some o → RowEl E' o := by
  intro a ha hok hpos htail
  obtain ⟨E', tr, e40, e400, e401, hv, hrow⟩ := key (vsH x k4 k5 f t L)
  have i300 : E'.i 300 = pickI x 4 := (hv 300 (by omega) (by omega) (by omega) (by omega)).trans rfl
  have hTE : TE.den E' = (t : Int) := by rw [TE_den2 i300, htt]
  have h5 : ∀ j, j < 30 → E'.i (500 + j) = fldT (getT f t) (regs f t) j := fun j hj => (hv _ (by omega) (by omega) (by omega) (by omega)).trans (vsH_5 hj)
  have h8 : ∀ i j, i < 5 → j < 30 → E'.i (800 + 40 * i + j) = fldT (getT f (L.getD i 0)) (regs f (L.getD i 0)) j := fun i j hi hj => (hv _ (by omega) (by omega) (by omega) (by omega)).trans (vsH_8 hj)
  have i450 : E'.i 450 = (L.getD 0 0 : Nat) := (hv 450 (by omega) (by omega) (by omega) (by omega)).trans rfl
  have hsy : ∀ i, i < 5 → i < L.length → (symP i).den E' = (L.getD i 0 : Nat) := fun i h1 h2 => symP_den i450 h8 hlk h1 h2
  have i500 : E'.i 500 = (P t).st := (h5 0 (by omega)).trans (s.st ht)
  have i501 : E'.i 501 = (P t).pr := (h5 1 (by omega)).trans (s.pr ht)
  have hn : nJ (6 * L.length + a) = L.length := by show (6 * L.length + a) / 6 = _; omega
  have haj : aJ (6 * L.length + a) = a := by show (6 * L.length + a) % 6 = _; omega
  have hlast : EntOk PP cP E' (105 + L.length) ⟨15, [], 106 + L.length + 1, .si .i64 (.v 400), .v (325 + L.length)⟩ :=
   ent_g (hrow _ (by omega) (by omega)) (hrow _ (show 103 ≤ 106 + L.length + 1 by omega) (show 106 + L.length + 1 < 200 by omega)) c5 p5 (by
    show E'.i (325 + L.length) = _
    rw [hv _ (by omega) (by omega) (by omega) (by omega), vsH_lo (by omega), if_neg (by omega)]) (fun ρ => rfl) (fun ρ => vsi e400)
  have hth := thr_ents hTT (fun x hx => s.q.thr x (hTT x hx)) h4 hrow i450 h8 hlk (fun i hi => by
   by_cases hl : i < L.length
   ·rw [if_pos hl, hv _ (by omega) (by omega) (by omega) (by omega), vsH_lo hi, if_pos hl]
   ·rw [if_neg hl]) hlast L.length 0 (by omega)
  refine ⟨6 * L.length + a, σ, (4 - x).toNat, E', mem_nxH (by omega), by omega, ⟨f, Q, P, c, s, hst, e400, e401, by omega, by omega, .inr ⟨?_, hok, by omega, ?_, ⟨pH_ok hxI e40 i300, trivial⟩, ?_, ?_⟩⟩, tr, rowU_ok hB2_end⟩
  ·have h3 : L.length ≤ 3 ∨ a < 4 := by
    unfold okJ at hok
    rw [hn, haj] at hok
    simp at hok; omega
   omega
  ·rw [hn]
   exact ⟨ent_g (hrow 103 (by omega) (by omega)) (hrow 104 (by omega) (by omega)) th (by omega) ((hv 321 (by omega) (by omega) (by omega) (by omega)).trans rfl) (fun ρ => arg1 (vsi hTE)) (fun ρ => tupT (tD_ok h5)),
    ent_g (hrow 104 (by omega) (by omega)) (hrow 105 (by omega) (by omega)) c4 p4 ((hv 324 (by omega) (by omega) (by omega) (by omega)).trans rfl) (fun ρ => arg1 (vsi i501)) (fun ρ => by
     rw [hhd]
     cases L with
     | nil => rfl
     | cons x r => exact vsi i450), hth⟩
  ·rw [hn, haj]
   have hpr : 0 ≤ (P t).pr := by omega
   exact ⟨f_lt (show E'.i 40 < 4 by omega), f_ltn (show 0 ≤ E'.i 501 by omega), f_gen (show E'.i 501 < 256 by omega), f_gtn (show E'.i 501 ≤ 255 by omega), fs_app (neq_map hsy hne h4 L.length 0 (by omega)) (fs_app (eq_map hTE hsy h4 hpos L.length 0 (by omega)) (htail E' i500 i501 hTE e400 e401))⟩
  ·rw [hn]; exact hrow _ (by omega) (by omega)
 have getm : ∀ i, i < L.length → L.getD i 0 ∈ L := fun i hi => by
  rw [List.getD_eq_getElem?_getD, List.getElem?_eq_getElem hi]
  exact List.getElem_mem _
 by_cases hm' : t ∈ L
 ·obtain ⟨a', b', hab⟩ := List.append_of_mem hm'
  have hlen : L.length = a'.length + 1 + b'.length := by rw [hab]; simp; omega
  have hq := hin.2 hm'
  have h1 := (s.run t ht).2 (.inr hq)
  have htc : t ≠ c := by
   intro e
   have := s.nc (e ▸ ht)
   rw [← e, hq] at this; cases this
  refine key2 a'.length (by omega) ?_ (nd_pos hnd hab) fun E' i500 i501 hT e400 e401 => ?_
  ·unfold okJ
   rw [show nJ (6 * L.length + a'.length) = L.length by show (6 * L.length + a'.length) / 6 = _; omega, show aJ (6 * L.length + a'.length) = a'.length by show (6 * L.length + a'.length) % 6 = _; omega]
   simp; omega
  ·have hc0 : c ≠ 0 := fun h => by rw [hse0 h] at hm'; cases hm'
   have hle := hse hc0 (by intro h; rw [h] at hm'; cases hm')
   have hfT : fT a'.length = [(.cmp .eql (.v 500) (.lit 1), true), (.cmp .neq TE (.v 400), true), (.cmp .gtr (.v 501) (.v 401), false)] := by
    have : a'.length = 0 ∨ a'.length = 1 ∨ a'.length = 2 ∨ a'.length = 3 := by omega
    rcases this with h | h | h | h <;> rw [h] <;> rfl
   rw [hfT]
   refine ⟨f_eq (show E'.i 500 = 1 by rw [i500]; exact h1), f_ne ?_, f_gtn ?_, trivial⟩
   ·rw [hT]; show (t : Int) ≠ E'.i 400; omega
   ·show E'.i 501 ≤ E'.i 401
    rw [i501, e401]; unfold topI; rw [if_neg hc0]; omega
 ·have h3 := len3 hnd hTT ht hm'
  have hqf : (getT f t).q = false := by
   cases h : (getT f t).q with
   | false => rfl
   | true => exact absurd (hin.1 h) hm'
  have hpos : ∀ a, 4 ≤ a → ∀ i, i < L.length → (L.getD i 0 = t ↔ i = a) := fun a ha i hi => ⟨fun h => absurd (h ▸ getm i hi) hm', fun h => by omega⟩
  have hok : ∀ a, 4 ≤ a → a < 6 → okJ (6 * L.length + a) = true := fun a h1 h2 => by
   unfold okJ
   rw [show nJ (6 * L.length + a) = L.length by show (6 * L.length + a) / 6 = _; omega, show aJ (6 * L.length + a) = a by show (6 * L.length + a) % 6 = _; omega]
   simp; omega
  by_cases h1 : (P t).st = 1
  ·have htc : t = c := by
    rcases (s.run t ht).1 h1 with h | h
    ·exact h
    ·rw [hqf] at h; cases h
   refine key2 5 (by omega) (hok 5 (by omega) (by omega)) (hpos 5 (by omega)) fun E' i500 i501 hT e400 e401 => ⟨f_eq (show E'.i 500 = 1 by rw [i500]; exact h1), f_nen ?_, trivial⟩
   rw [hT]; show (t : Int) = E'.i 400; omega
  ·exact key2 4 (by omega) (hok 4 (by omega) (by omega)) (hpos 4 (by omega)) fun E' i500 i501 hT e400 e401 => ⟨f_eqn (show E'.i 500 ≠ 1 by rw [i500]; exact h1), trivial⟩
end Go.Ev.X
end
/-
 SchedHighest: the law, of any acts.
-/
set_option linter.unusedSimpArgs false
set_option linter.unusedVariables false
set_option maxRecDepth 100000
noncomputable section
namespace Go.Ev.X
open Go Go.Ev Go.Proofs
variable {E : Env}
theorem ends2_law {F : Nat} {f : Func} {q : Cut2} {dr : Nat → Option Dr} (hfn : PP.funcs[F]? = some f) (hc : cut2X (tyOf PP) dr f = some q) (hw : drawF dr f = true) {fr : List (Ky × V)} {B a b : Int} (hB : 0 ≤ B ∧ B < 4611686018427387904) {n : Nat} {EO : Nat → Env → Prop} (hends : Ends n a b EO) {cx : Nat → Cx} {fe : Nat → List (SB × Bool)}
  (hcx : ∀ e E, EO e E → CxOk E PP (tyOf PP) (cx e)) (hfe : ∀ e E, EO e E → FsOk E (fe e)) {st2 : Nat → GS} {Inv2 : Nat → Nat → Env → Prop} {nx2 : Nat → List (Nat × Sg)} (lead2 : ∀ e E, EO e E → ∃ m2, Leads st2 Inv2 E (nx2 e) m2)
  (round2 : ∀ m j E, Inv2 m j E → ∃ fa nx g, CallOk E PP g.call ∧ FaOk E fa ∧ runZ st2 q.x2 (q.end2 g) g j fa nx = 0 ∧ Leads st2 Inv2 E nx m)
  (go : ∀ j, j < 10 → runZ (stB fr) q.x1 (q.end1 ⟨callT (cxA (j + 1)) 20, F, 20000⟩ st2 []) ⟨callT (cxA (j + 1)) 20, F, 20000⟩ (j + 1) ⟨fG B (j + 1), []⟩ (nxB n (sgK (j + 1))) = 0)
  (out : ∀ e bb, e < n → runZ (stB fr) q.x1 (q.end1 ⟨callT (cx e) 20, F, 20000⟩ st2 (nx2 e)) ⟨callT (cx e) 20, F, 20000⟩ (11 + e) ⟨fO B bb ++ fe e, []⟩ [] = 0) {l : List V} (hl : bdL 2 l)
  (hin : initFr l (fun fr' => zIn q.z0 ⟨inA, F, 20000⟩ fr' hIn ⟨[], []⟩ (fun fr' h fa => zIn q.z1 ⟨inA, F, 20000⟩ fr' h fa (fun fr' h _ => nextK (stB fr) (nxB n sgK0) fr' h) (kLoop q.z2 ⟨inA, F, 20000⟩ st2 [] (zOut q.z0 ⟨inA, F, 20000⟩ (koB q.rs)))) (koB q.rs)) = 0)
  {r : Row} {D : Nat → Int × Int × Int} (hD : RowA r D) {W : World} (hW : W.heap[r.b]? = some (.cells r.cs r.t r.fz)) {args : Array Value}
  (hargs : ∀ E : Env, E.s 0 = r → E.i 20 = a → E.i 21 = b → (γL E (rhoA r) l).toArray = args) :
  Calls PP F args W fun e w' => e = .returned (.bool true) ∧ RowKit.Below W.heap.size W w' := by
 obtain ⟨E, hE⟩ : ∃ E : Env, E = ⟨fun i => if i = 20 then a else if i = 21 then b else r.len, fun _ => false, fun q => if q = 0 then r else rowF 8192 f0⟩ := ⟨_, rfl⟩
 have s0 : E.s 0 = r := by rw [hE]; rfl
 have i1 : E.i 1 = r.len := by rw [hE]; rfl
 have ia : E.i 20 = a := by rw [hE]; rfl
 have ib : E.i 21 = b := by rw [hE]; rfl
 have p0 : WordsIs (E.s 100).cs 8192 f0 := by rw [hE]; exact rowF_is _ _
 have r0 : WordsIs (E.s 200).cs 8192 f0 := by rw [hE]; exact rowF_is _ _
 have := cut2_law tyOk_tyOf mixedX hfn hc hw (st := stB fr) (st2 := st2) (Inv := InvB B a b n EO) (Inv2 := Inv2) round2 (fun m j E hI => ?_) (E := E) (g0 := ⟨inA, F, 20000⟩) (inA_ok call1 (call1_ok (lenAll E)) p0 r0) FaOk.nil (B.toNat + 1)
  (sgK0_lead hends p0 r0 (by rw [s0]; exact i1) (by rw [s0]; exact hD) ia ib hB.1 (by omega)) hin (hIn_sat (by rw [s0]; exact hW) (by rw [s0]; exact hD.esz) (by rw [s0]; exact i1)) hl (fun p o hp _ hlo => ?_)
 ·rw [s0, hargs E s0 ia ib] at this
  exact this
 ·obtain ⟨hlen, ⟨D', hD'⟩, h20, hm, ha, hb, h | h⟩ := hI
  ·obtain ⟨j1, j2, hlv, k1, k2⟩ := h
   refine ⟨⟨fG B j, []⟩, nxB n (sgK j), [], 0, ⟨callT (cxA j) 20, F, 20000⟩, callT_run (cxA_ok hlv) 20, fG_ok hlv k1 k2, ?_, sgK_lead hends hB.2 hlen hD' h20 hm ha hb hlv k2, fun h => absurd rfl h⟩
   have := go (j - 1) (by omega)
   rw [show j - 1 + 1 = j from by omega] at this
   exact this
  ·obtain ⟨j1, j2, heo, hu⟩ := h
   obtain ⟨m2, hl2⟩ := lead2 _ _ heo
   have key : ∀ bb, FsOk E (fO B bb) → ∃ fa nx nx2 m2 g, CallOk E PP g.call ∧ FaOk E fa ∧ runZ (stB fr) q.x1 (q.end1 g st2 nx2) g j fa nx = 0 ∧ Leads (stB fr) (InvB B a b n EO) E nx m ∧ Leads st2 Inv2 E nx2 m2 := fun bb hbb => by
    have := out (j - 11) bb (by omega)
    rw [show 11 + (j - 11) = j from by omega] at this
    exact ⟨⟨fO B bb ++ fe (j - 11), []⟩, [], nx2 (j - 11), m2, ⟨callT (cx (j - 11)) 20, F, 20000⟩, callT_run (hcx _ _ heo) 20, fa_list (fs_app hbb (hfe _ _ heo)) trivial, this, fun h => absurd rfl h, hl2⟩
   by_cases h : E.i 2 < E.i 1
   ·exact key true (show FsOk E (fO B true) from ⟨f_lt h, f_ltn (show B ≤ E.i 2 by omega), trivial⟩)
   ·exact key false (show FsOk E (fO B false) from ⟨f_ltn (show E.i 1 ≤ E.i 2 by omega), trivial⟩)
 ·have hp : ((PT.e : PT O).set .h (.row 0 3 (.v 1) (.v 2) [])).get p = some o := hp
  have hlo : 2 ≤ p.toNat := hlo
  by_cases e : p = .h
  ·subst e
   have : (Ev.P.h : Ev.P).toNat = 1 := rfl
   omega
  ·rw [PT.get_set_other _ _ _ _ (fun h => e h.symm), PT.get_e] at hp
   cases hp
theorem sgH_cut {n i : Nat} (a1 : i ≠ 1) (a2 : i ≠ 5) (a3 : i ≠ 6) (a4 : i ≠ 40) (a5 : i ≠ 400) (a6 : i ≠ 401) (a7 : i ≠ 100103) (a8 : i ≠ 100200) : sgH n i = none ∧ sgO n i = none := by
 constructor <;> refine sgL_cut fun p hp => ?_ <;> simp only [List.mem_cons, List.not_mem_nil, or_false] at hp <;> rcases hp with rfl | rfl | rfl | rfl | rfl | rfl | rfl | rfl <;> assumption
theorem leadO_h {e : Nat} (h : EOh e E) : ∃ m2, Leads st2H InvH E (nxH (sgO e)) m2 := by
 obtain ⟨_, _, he, f, Q, P, c, s, hst, hr, i400, h0, h1⟩ := h
 refine ⟨5, leadH (x := 0) (r := 102 + e) s hst hr rfl (s40 := .lit 0) rfl (by omega) rfl (s400 := .v 400) i400 rfl ?_ rfl (fun i h1 h2 h3 h4 => (sgH_cut (by omega) (by omega) (by omega) (by omega) (by omega) (by omega) (by omega) (by omega)).2) (fun q h1 h2 => (sgH_cut (by omega) (by omega) (by omega) (by omega) (by omega) (by omega) (by omega) (by omega)).2) (by omega)⟩
 have : e = 0 ∨ e = 1 := by omega
 rcases this with rfl | rfl
 ·show (-1 : Int) = topI P c
  unfold topI; rw [if_pos (h0 rfl)]
 ·obtain ⟨g1, g2⟩ := h1 (by omega)
  show E.i 501 = topI P c
  unfold topI; rw [if_neg g1]; exact g2
theorem round2_h : ∀ m j E, InvH m j E → ∃ fa nx g, CallOk E PP g.call ∧ FaOk E fa ∧ runZ st2H qh.x2 (qh.end2 g) g j fa nx = 0 ∧ Leads st2H InvH E nx m := by
 intro m j E hI
 obtain ⟨f, Q, P, c, s, hst, i400, i401, h0, hm, h | h⟩ := hI
 ·obtain ⟨rfl, h4⟩ := h
  exact ⟨⟨[(.cmp .lss (.v 40) (.lit 4), false)], []⟩, [], gZ, callT_run (hC0 E) 20, fa_list ⟨f_ltn (show 4 ≤ E.i 40 by omega), trivial⟩ trivial, endH_ok, fun h => absurd rfl h⟩
 ·obtain ⟨hj, hok, h4, hes, hps, hfs, hr⟩ := h
  refine ⟨⟨fHi (nJ j) (aJ j), []⟩, nxH (sgH (nJ j)), gH j, callT_run (cxM_ok (hC0 E) hes (ps_list hps)) 20, fa_list hfs trivial, ?_, leadH (x := E.i 40 + 1) (r := 105 + nJ j) s hst hr rfl (s40 := .op .add .i64 (.v 40) (.lit 1)) ?_ (by omega) rfl (s400 := .v 400) i400 rfl (s401 := .v 401) i401 rfl (fun i h1 h2 h3 h4 => (sgH_cut (by omega) (by omega) (by omega) (by omega) (by omega) (by omega) (by omega) (by omega)).1) (fun q h1 h2 => (sgH_cut (by omega) (by omega) (by omega) (by omega) (by omega) (by omega) (by omega) (by omega)).1) (by omega)⟩
  ·have := rng_ok goH_ok j hj
   rw [hok] at this
   exact Nat.eq_of_beq_eq_true this
  ·show wrapF .i64 (E.i 40 + 1) = _
   rw [wrapF_eq, IntKind.wrap_i64]; omega
theorem high_any {r : Row} {D : Nat → Int × Int × Int} (hD : RowA r D) {W : World} (hW : W.heap[r.b]? = some (.cells r.cs r.t r.fz)) :
  Calls PP 5 #[.slice (some ⟨r.b, r.off, none⟩) r.len r.cap] W fun e w' => e = .returned (.bool true) ∧ RowKit.Below W.heap.size W w' :=
 ends2_law Tryz.func5 qch w5 (fr := frH) (B := 100) (by decide) ends_h (cx := cxEh) (fe := fEh) (fun e E h => cxM_ok (hC0 E) h.1 (fun e h => by cases h)) (fun e E h => h.2.1) (fun e E h => leadO_h h) round2_h (fun j hj => Nat.eq_of_beq_eq_true (rng_ok goHa_ok j hj)) (fun e bb he => by
  have := rng_ok outH_ok e he
  simp only [Bool.and_eq_true] at this
  match bb with
  | true => exact Nat.eq_of_beq_eq_true this.1
  | false => exact Nat.eq_of_beq_eq_true this.2) (l := [.fs q1 0]) ⟨show (1 : Nat) < 2 by decide, trivial⟩ inH_ok hD hW fun E h0 h1 h2 => by
  simp only [γL, V.γ, SE.den, h0, h1, h2, rhoA]
theorem high_nil (W : World) : Calls PP 5 #[.slice none 0 0] W fun e w' => e = .returned (.bool true) ∧ RowKit.Below W.heap.size W w' := by
 obtain ⟨E, hE⟩ : ∃ E : Env, E = ⟨fun _ => 0, fun _ => false, fun q => rowF 8192 f0⟩ := ⟨_, rfl⟩
 have := val_of_run (hC0 E) (msS_ok rfl abt FaOk.nil (call1_ok (lenAll E)) (callAx_ok (call1_ok (lenAll E)))) FaOk.nil nilH_ok (l := [.snil]) ⟨trivial, trivial⟩ (fun _ => ⟨0, 0⟩) W
 exact this.mono fun e w' h => by
  obtain ⟨⟨ρ', h1⟩, h2⟩ := h
  exact ⟨h1, h2⟩
end Go.Ev.X
end
