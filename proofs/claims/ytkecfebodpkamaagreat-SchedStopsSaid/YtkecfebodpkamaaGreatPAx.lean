/-
 Laws that do what a list says and then more: several ends, each with a table of its own.
-/
import Derived.Test.YtkecfebodpkamaaGreatSPx
import Derived.Test.YtkecfebodpkamaaGreatSL
set_option linter.unusedSimpArgs false
set_option linter.unusedVariables false
set_option maxRecDepth 100000
noncomputable section
namespace Go.Ev.X
open Go Go.Ev Go.Proofs
variable {E : Env} {f f' : Nat → Int}
structure EndE (E : Env) (f : Nat → Int) (a b : Int) (vs : Nat → Int) (rows : Nat → Row) : Prop where
 i : ∀ i, 300 ≤ i → i < 100000 → E.i i = vs i
 x : E.i 20 = a
 y : E.i 21 = b
 p : WordsIs (E.s 100).cs 8192 f
 r : WordsIs (E.s 200).cs 8192 f
 s : ∀ q, 101 ≤ q → q < 200 → E.s q = rows q
def InvB (B a b : Int) (n : Nat) (EO : Nat → Env → Prop) (m j : Nat) (E : Env) : Prop := E.i 1 = (E.s 0).len ∧ (∃ D, RowA (E.s 0) D) ∧ 0 ≤ E.i 2 ∧ (m : Int) + E.i 2 = B ∧ E.i 20 = a ∧ E.i 21 = b ∧
 ((1 ≤ j ∧ j ≤ 10 ∧ Live j E ∧ E.i 2 < E.i 1 ∧ E.i 2 < B) ∨ (11 ≤ j ∧ j < 11 + n ∧ EO (j - 11) E ∧ ¬ (E.i 2 < E.i 1 ∧ E.i 2 < B)))
def Ends (n : Nat) (a b : Int) (EO : Nat → Env → Prop) : Prop := ∀ f, OkW f → ∃ e vs rows, e < n ∧ ∀ E, EndE E f a b vs rows → EO e E
def stB (fr : List (Ky × V)) (j : Nat) : GS := ⟨fr, hA (bif Nat.ble j 10 then j else 0)⟩
def nxB (n : Nat) (σ : Sg) : List (Nat × Sg) := (rng (10 + n)).map fun j => (j + 1, σ)
theorem mem_nxB {n : Nat} {σ : Sg} {j : Nat} (h1 : 1 ≤ j) (h2 : j < 11 + n) : (j, σ) ∈ nxB n σ := by
 unfold nxB
 refine List.mem_map.2 ⟨j - 1, mem_rngF (by omega) (by omega), ?_⟩
 rw [show j - 1 + 1 = j from by omega]
theorem leadB {fr : List (Ky × V)} {σ : Sg} {rp rr : Nat} {B a b : Int} {n m : Nat} {EO : Nat → Env → Prop} (hends : Ends n a b EO) (hf : OkW f) (hp : WordsIs (E.s rp).cs 8192 f) (hr : WordsIs (E.s rr).cs 8192 f) (g1 : σ 1 = some (.v 1)) {s2 : SE} (g2 : σ 2 = some s2) {x : Int} (hx : s2.den E = x) (hx0 : 0 ≤ x) (hxB : x ≤ B)
  (ga : σ 20 = some (.v 20)) (gb : σ 21 = some (.v 21)) (ha : E.i 20 = a) (hb : E.i 21 = b) (n3 : σ 3 = none) (n4 : σ 4 = none) (n7 : σ 7 = none) (nf : ∀ i, 300 ≤ i → i < 100000 → σ i = none) (gp : σ 100100 = some (.lit (.ofNat rp))) (gr : σ 100200 = some (.lit (.ofNat rr)))
  (nr : ∀ q, 101 ≤ q → q ≠ 200 → σ (100000 + q) = none) (hlen : E.i 1 = (E.s 0).len) {D : Nat → Int × Int × Int} (hD : RowA (E.s 0) D) (hm : B - x < m) : Leads (stB fr) (InvB B a b n EO) E (nxB n σ) m := by
 intro _
 have key : ∀ (vs : Nat → Int) (rows : Nat → Row), ∃ E', TrE σ E E' ∧ E'.i 1 = E.i 1 ∧ E'.i 2 = x ∧ E'.i 20 = a ∧ E'.i 21 = b ∧ E'.s 0 = { E.s 0 with idx := x.toNat } ∧ WordsIs (E'.s 100).cs 8192 f ∧ WordsIs (E'.s 200).cs 8192 f ∧ (∀ i, σ i = none → E'.i i = vs i) ∧ ∀ q, 101 ≤ q → q ≠ 200 → E'.s q = rows q := by
  intro vs rows
  have t := nxA_tr σ E x vs rows
  refine ⟨nxA σ E x vs rows, t, t.i 1 _ g1, (t.i 2 _ g2).trans hx, (t.i 20 _ ga).trans ha, (t.i 21 _ gb).trans hb, rfl, ?_, ?_, fun i hi => by simp [nxA, hi], fun q h1 h2 => ?_⟩
  ·rw [nxA_s]
   unfold nxS
   rw [if_neg (by omega), show 100000 + 100 = 100100 from rfl, gp]; exact hp
  ·rw [nxA_s]
   unfold nxS
   rw [if_neg (by omega), show 100000 + 200 = 100200 from rfl, gr]; exact hr
  ·rw [nxA_s]
   unfold nxS
   rw [if_neg (by omega), nr q h1 h2]
 by_cases hk : x < (E.s 0).len ∧ x < B
 ·obtain ⟨c0, c1, c2, r0, r1, r2⟩ := hD.c x.toNat (by omega)
  obtain ⟨j, f', kp, kr, j1, j2, hall⟩ := choose hf r0 r1 r2
  obtain ⟨E', t, e1, e2, ea, eb, e0, hp', hr', hv, hs⟩ := key (vsA (D x.toNat).1 (D x.toNat).2.1 (D x.toNat).2.2 (pickI (D x.toNat).2.1 4) kp kr) (fun _ => rowF 8192 f')
  have hE : EnvA E' f f' (D x.toNat).1 (D x.toNat).2.1 (D x.toNat).2.2 kp kr := ⟨(hv 3 n3).trans rfl, (hv 4 n4).trans rfl, (hv 7 n7).trans rfl, (hv 300 (nf 300 (by omega) (by omega))).trans rfl, (hv 310 (nf 310 (by omega) (by omega))).trans rfl, (hv 311 (nf 311 (by omega) (by omega))).trans rfl,
   hp', by rw [hs 101 (by omega) (by omega)]; exact rowF_is _ _, hr', by rw [hs 201 (by omega) (by omega)]; exact rowF_is _ _⟩
  have hD' : RowA (E'.s 0) D := by rw [e0]; exact hD.idx _
  have hl' : (E'.s 0).len = (E.s 0).len := by rw [e0]
  have hi' : (E'.s 0).idx = x.toNat := by rw [e0]
  have hrow := rng_ok hA_row (j - 1) (by omega)
  rw [show j - 1 + 1 = j from by omega] at hrow
  have hst : (stB fr j).h = hA j := by
   show hA (bif Nat.ble j 10 then j else 0) = hA j
   have : Nat.ble j 10 = true := by rw [Nat.ble_eq]; exact j2
   rw [this]; rfl
  refine ⟨j, σ, (B - x).toNat, E', mem_nxB j1 (by omega), by omega, ⟨by rw [e1, hl']; exact hlen, ⟨D, hD'⟩, by omega, by omega, ea, eb, .inl ⟨j1, j2, hall E' hE, by omega, by omega⟩⟩, t, ?_⟩
  rw [hst]
  exact row3_ok hrow (by rw [e2, hi']; omega) (by rw [hi', hl']; omega) hD' (by rw [hi']; exact hE.i3) (by rw [hi']; exact hE.i4) (by rw [hi']; exact hE.i7)
 ·obtain ⟨e, vs, rows, he, hall⟩ := hends f hf
  obtain ⟨E', t, e1, e2, ea, eb, e0, hp', hr', hv, hs⟩ := key vs rows
  have hD' : RowA (E'.s 0) D := by rw [e0]; exact hD.idx _
  have hl' : (E'.s 0).len = (E.s 0).len := by rw [e0]
  have hst : (stB fr (11 + e)).h = hA 0 := by
   show hA (bif Nat.ble (11 + e) 10 then 11 + e else 0) = hA 0
   have : Nat.ble (11 + e) 10 = false := by rw [Bool.eq_false_iff, ne_eq, Nat.ble_eq]; omega
   rw [this]; rfl
  refine ⟨11 + e, σ, (B - x).toNat, E', mem_nxB (by omega) (by omega), by omega, ⟨by rw [e1, hl']; exact hlen, ⟨D, hD'⟩, by omega, by omega, ea, eb, .inr ⟨by omega, by omega, ?_, fun h => hk ⟨by omega, by omega⟩⟩⟩, t, ?_⟩
  ·rw [show 11 + e - 11 = e from by omega]
   exact hall E' ⟨fun i h1 h2 => hv i (nf i h1 h2), ea, eb, hp', hr', fun q h1 h2 => hs q h1 (by omega)⟩
  ·rw [hst]; exact rowU_ok hA_end
end Go.Ev.X
end
/-
 SchedPriority: its runs.
-/
set_option linter.unusedSimpArgs false
set_option linter.unusedVariables false
set_option maxRecDepth 100000
noncomputable section
namespace Go.Ev.X
open Go Go.Ev Go.Proofs
def sgK (j : Nat) : Sg := sgL [(1, .v 1), (2, .op .add .i64 (.v 2) (.lit 1)), (5, s5A j), (6, s6A j), (20, .v 20), (21, .v 21), (100100, .lit (.ofNat (rpA j))), (100200, .lit (.ofNat (rrA j)))]
def sgK0 : Sg := sgL [(1, .v 1), (2, .lit 0), (5, .lit 0), (6, .lit 677), (20, .v 20), (21, .v 21), (100100, .lit 100), (100200, .lit 200)]
def hInP : H := ⟨q2, q2, (PT.e : PT O).set q1 (.row 0 3 (.v 1) (.v 2) [])⟩
def inB : CallT := asRow 9 q2 (.arr 37 8192 13 (.i .u64 0) abt0) (.oa 37 200 8192 13 .nil) (asRow 9 q1377 (.arr 37 8192 13 (.i .u64 0) abt0) (.oa 37 100 8192 13 .nil) (memoS gb (callAx call1)))
end Go.Ev.X
end
/-
 Laws that do what a list says and then more: the law.
-/
set_option linter.unusedSimpArgs false
set_option linter.unusedVariables false
set_option maxRecDepth 100000
noncomputable section
namespace Go.Ev.X
open Go Go.Ev Go.Proofs
variable {E : Env}
theorem sgL_cut {l : List (Nat × SE)} {i : Nat} (h : ∀ p ∈ l, i ≠ p.1) : sgL l i = none := by
 induction l with
 | nil => rfl
 | cons p r ih =>
  obtain ⟨a, s⟩ := p
  have e : Nat.beq i a = false := by
   rw [Bool.eq_false_iff]; simpa using h (a, s) (by simp)
  show bc (Nat.beq i a) (some s) (sgL r i) = none
  rw [e]
  exact ih fun p hp => h p (by simp [hp])
theorem sgK_cut {j i : Nat} (a1 : i ≠ 1) (a2 : i ≠ 2) (a3 : i ≠ 5) (a4 : i ≠ 6) (a5 : i ≠ 20) (a6 : i ≠ 21) (a7 : i ≠ 100100) (a8 : i ≠ 100200) : sgK j i = none ∧ sgK0 i = none := by
 constructor <;> refine sgL_cut fun p hp => ?_ <;> simp only [List.mem_cons, List.not_mem_nil, or_false] at hp <;> rcases hp with rfl | rfl | rfl | rfl | rfl | rfl | rfl | rfl <;> assumption
theorem sgK_lead {fr : List (Ky × V)} {B a b : Int} {n m j : Nat} {EO : Nat → Env → Prop} (hends : Ends n a b EO) (hB : B < 4611686018427387904) (hlen : E.i 1 = (E.s 0).len) {D : Nat → Int × Int × Int} (hD : RowA (E.s 0) D) (h20 : 0 ≤ E.i 2) (hm : (m : Int) + E.i 2 = B) (ha : E.i 20 = a) (hb : E.i 21 = b) (hl : Live j E) (hk : E.i 2 < B) :
  Leads (stB fr) (InvB B a b n EO) E (nxB n (sgK j)) m := by
 obtain ⟨_, _, _, _, f', hok, hp, hr⟩ := hl
 refine leadB (x := E.i 2 + 1) (s2 := .op .add .i64 (.v 2) (.lit 1)) hends hok hp hr rfl rfl ?_ (by omega) (by omega) rfl rfl ha hb (sgK_cut (by omega) (by omega) (by omega) (by omega) (by omega) (by omega) (by omega) (by omega)).1 (sgK_cut (by omega) (by omega) (by omega) (by omega) (by omega) (by omega) (by omega) (by omega)).1 (sgK_cut (by omega) (by omega) (by omega) (by omega) (by omega) (by omega) (by omega) (by omega)).1
  (fun i h1 h2 => (sgK_cut (by omega) (by omega) (by omega) (by omega) (by omega) (by omega) (by omega) (by omega)).1) rfl rfl (fun q h1 h2 => (sgK_cut (by omega) (by omega) (by omega) (by omega) (by omega) (by omega) (by omega) (by omega)).1) hlen hD (by omega)
 show wrapF .i64 (E.i 2 + 1) = _
 rw [wrapF_eq, IntKind.wrap_i64]; omega
theorem sgK0_lead {fr : List (Ky × V)} {B a b : Int} {n m : Nat} {EO : Nat → Env → Prop} (hends : Ends n a b EO) (h1 : WordsIs (E.s 100).cs 8192 f0) (h2 : WordsIs (E.s 200).cs 8192 f0) (hlen : E.i 1 = (E.s 0).len) {D : Nat → Int × Int × Int} (hD : RowA (E.s 0) D) (ha : E.i 20 = a) (hb : E.i 21 = b) (hB : 0 ≤ B) (hm : B < m) :
  Leads (stB fr) (InvB B a b n EO) E (nxB n sgK0) m := by
 exact leadB (x := 0) (s2 := .lit 0) hends okw0 h1 h2 rfl rfl rfl (Int.le_refl 0) hB rfl rfl ha hb rfl rfl rfl (fun i h1 h2 => (sgK_cut (j := 0) (by omega) (by omega) (by omega) (by omega) (by omega) (by omega) (by omega) (by omega)).2) rfl rfl (fun q h1 h2 => (sgK_cut (j := 0) (by omega) (by omega) (by omega) (by omega) (by omega) (by omega) (by omega) (by omega)).2) hlen hD (by omega)
theorem fs_app {l m : List (SB × Bool)} (h1 : FsOk E l) (h2 : FsOk E m) : FsOk E (l ++ m) := by
 induction l with
 | nil => exact h2
 | cons p r ih =>
  obtain ⟨c, b⟩ := p
  exact ⟨h1.1, ih h1.2⟩
theorem ends_law {F : Nat} {f : Func} {q : CutX} {dr : Nat → Option Dr} (hfn : PP.funcs[F]? = some f) (hc : cutX (tyOf PP) dr f = some q) (hw : drawF dr f = true) {fr : List (Ky × V)} {B a b : Int} (hB : 0 ≤ B ∧ B < 4611686018427387904) {n : Nat} {EO : Nat → Env → Prop} (hends : Ends n a b EO) {cx : Nat → Cx} {fe : Nat → List (SB × Bool)}
  (hcx : ∀ e E, EO e E → CxOk E PP (tyOf PP) (cx e)) (hfe : ∀ e E, EO e E → FsOk E (fe e))
  (go : ∀ j, j < 10 → runJ (stB fr) q.x q.z (koB q.rs) ⟨callT (cxA (j + 1)) 20, F, 20000⟩ (j + 1) ⟨fG B (j + 1), []⟩ (nxB n (sgK (j + 1))) = 0)
  (out : ∀ e bb, e < n → runJ (stB fr) q.x q.z (koB q.rs) ⟨callT (cx e) 20, F, 20000⟩ (11 + e) ⟨fO B bb ++ fe e, []⟩ [] = 0) {l : List V} (hl : bdL 2 l)
  (hin : initFr l (fun fr' => zIn q.z ⟨inB, F, 20000⟩ fr' hInP ⟨[], []⟩ (fun fr' h _ => nextK (stB fr) (nxB n sgK0) fr' h) (koB q.rs)) = 0)
  {r : Row} {D : Nat → Int × Int × Int} (hD : RowA r D) {W : World} (hW : W.heap[r.b]? = some (.cells r.cs r.t r.fz)) {args : Array Value}
  (hargs : ∀ E : Env, E.s 0 = r → E.i 20 = a → E.i 21 = b → (γL E (rhoA r) l).toArray = args) :
  Calls PP F args W fun e w' => e = .returned (.bool true) ∧ RowKit.Below W.heap.size W w' := by
 obtain ⟨E, hE⟩ : ∃ E : Env, E = ⟨fun i => if i = 20 then a else if i = 21 then b else r.len, fun _ => false, fun q => if q = 0 then r else rowF 8192 f0⟩ := ⟨_, rfl⟩
 have s0 : E.s 0 = r := by rw [hE]; rfl
 have i1 : E.i 1 = r.len := by rw [hE]; rfl
 have ia : E.i 20 = a := by rw [hE]; rfl
 have ib : E.i 21 = b := by rw [hE]; rfl
 have p0 : WordsIs (E.s 100).cs 8192 f0 := by rw [hE]; exact rowF_is _ _
 have r0 : WordsIs (E.s 200).cs 8192 f0 := by rw [hE]; exact rowF_is _ _
 have b1 : ∀ {j : Nat}, j ≤ 10 → Nat.ble j 10 = true := fun h => by rw [Nat.ble_eq]; exact h
 have b2 : ∀ {j : Nat}, 11 ≤ j → Nat.ble j 10 = false := fun {j} h => by rw [Bool.eq_false_iff, ne_eq, Nat.ble_eq]; omega
 have := cut_law tyOk_tyOf mixedX hfn hc hw (st := stB fr) (gj := fun j => ⟨callT (bif Nat.ble j 10 then cxA j else cx (j - 11)) 20, F, 20000⟩) (Inv := InvB B a b n EO) (fun m j E h => ?_) (fun m j E hI => ?_) (E := E) (g0 := ⟨inB, F, 20000⟩) (inA_ok call1 (call1_ok (lenAll E)) p0 r0) FaOk.nil (B.toNat + 1)
  (sgK0_lead hends p0 r0 (by rw [s0]; exact i1) (by rw [s0]; exact hD) ia ib hB.1 (by omega)) hin (hIn_sat (by rw [s0]; exact hW) (by rw [s0]; exact hD.esz) (by rw [s0]; exact i1)) hl (fun p o hp _ hlo => ?_)
 ·rw [s0, hargs E s0 ia ib] at this
  exact this
 ·obtain ⟨_, _, _, _, _, _, h | h⟩ := h
  ·show CallOk E PP (callT (bif Nat.ble j 10 then cxA j else cx (j - 11)) 20)
   rw [b1 h.2.1]; exact callT_run (cxA_ok h.2.2.1) 20
  ·show CallOk E PP (callT (bif Nat.ble j 10 then cxA j else cx (j - 11)) 20)
   rw [b2 h.1]; exact callT_run (hcx _ _ h.2.2.1) 20
 ·obtain ⟨hlen, ⟨D', hD'⟩, h20, hm, ha, hb, h | h⟩ := hI
  ·obtain ⟨j1, j2, hlv, k1, k2⟩ := h
   refine ⟨⟨fG B j, []⟩, nxB n (sgK j), fG_ok hlv k1 k2, ?_, sgK_lead hends hB.2 hlen hD' h20 hm ha hb hlv k2⟩
   have := go (j - 1) (by omega)
   rw [show j - 1 + 1 = j from by omega] at this
   show runJ _ _ _ _ ⟨callT (bif Nat.ble j 10 then cxA j else cx (j - 11)) 20, F, 20000⟩ _ _ _ = 0
   rw [b1 j2]; exact this
  ·obtain ⟨j1, j2, heo, hu⟩ := h
   have key : ∀ bb, FsOk E (fO B bb) → ∃ fa nx, FaOk E fa ∧ runJ (stB fr) q.x q.z (koB q.rs) ⟨callT (bif Nat.ble j 10 then cxA j else cx (j - 11)) 20, F, 20000⟩ j fa nx = 0 ∧ Leads (stB fr) (InvB B a b n EO) E nx m := fun bb hbb => by
    have := out (j - 11) bb (by omega)
    rw [show 11 + (j - 11) = j from by omega] at this
    refine ⟨⟨fO B bb ++ fe (j - 11), []⟩, [], fa_list (fs_app hbb (hfe _ _ heo)) trivial, ?_, fun h => absurd rfl h⟩
    rw [b2 j1]; exact this
   by_cases h : E.i 2 < E.i 1
   ·exact key true (show FsOk E (fO B true) from ⟨f_lt h, f_ltn (show B ≤ E.i 2 by omega), trivial⟩)
   ·exact key false (show FsOk E (fO B false) from ⟨f_ltn (show E.i 1 ≤ E.i 2 by omega), trivial⟩)
 ·have hp : ((PT.e : PT O).set .h (.row 0 3 (.v 1) (.v 2) [])).get p = some o := hp
  have hlo : 2 ≤ p.toNat := hlo
  by_cases e : p = .h
  ·subst e
   have : (Ev.P.h : Ev.P).toNat = 1 := rfl
   omega
  ·rw [PT.get_set_other _ _ _ _ (fun h => e h.symm), PT.get_e] at hp
   cases hp
end Go.Ev.X
end
/-
 SchedPriority: what is asked of its ends: threads told by symbols, who waits, how many.
-/
set_option linter.unusedSimpArgs false
set_option linter.unusedVariables false
set_option maxRecDepth 100000
noncomputable section
namespace Go.Ev.X
open Go Go.Ev Go.Proofs
variable {E : Env} {f : Nat → Int}
theorem tA_ok {ρ : Rho} {b : Nat} {x0 x1 x2 x3 x4 x5 x6 x7 x8 x9 x10 x11 x12 x13 : V} {v : TV} {r : Nat → Int} (h0 : x0.γ E ρ = .int .i64 v.st) (h1 : x1.γ E ρ = .int .i64 v.pr) (h2 : x2.γ E ρ = .int .i64 v.sl) (h3 : x3.γ E ρ = .bool v.q) (h4 : x4.γ E ρ = .int .i64 v.pv) (h5 : x5.γ E ρ = .int .i64 v.nx) (h6 : x6.γ E ρ = .int .i64 v.bl) (h7 : x7.γ E ρ = .int .i64 v.bd) (h8 : x8.γ E ρ = .bool v.g) (h9 : x9.γ E ρ = .bool v.c) (h10 : x10.γ E ρ = .int .i64 v.bo) (h11 : x11.γ E ρ = .int .i64 v.ha) (h12 : x12.γ E ρ = .int .i64 v.fk) (h13 : x13.γ E ρ = .int .i64 v.fa)
  (hr : ∀ j, j < 30 → E.i (b + j) = fldT v r j) : (tA b x0 x1 x2 x3 x4 x5 x6 x7 x8 x9 x10 x11 x12 x13).γ E ρ = thV v r :=
 thG h0 h1 h2 h3 h4 h5 h6 h7 h8 h9 h10 h11 h12 h13 (vsi (hr 14 (by omega))) (vsi (hr 15 (by omega))) (vsi (hr 16 (by omega))) (vsi (hr 17 (by omega))) (vsi (hr 18 (by omega))) (vsi (hr 19 (by omega))) (vsi (hr 20 (by omega))) (vsi (hr 21 (by omega))) (vsi (hr 22 (by omega))) (vsi (hr 23 (by omega))) (vsi (hr 24 (by omega))) (vsi (hr 25 (by omega))) (vsi (hr 26 (by omega))) (vsi (hr 27 (by omega))) (vsi (hr 28 (by omega))) (vsi (hr 29 (by omega)))
theorem tD_ok {ρ : Rho} {b : Nat} {v : TV} {r : Nat → Int} (hr : ∀ j, j < 30 → E.i (b + j) = fldT v r j) : (tD b).γ E ρ = thV v r :=
 tA_ok (vsi (hr 0 (by omega))) (vsi (hr 1 (by omega))) (vsi (hr 2 (by omega))) (vsb (sbq (hr 3 (by omega)))) (vsi (hr 4 (by omega))) (vsi (hr 5 (by omega))) (vsi (hr 6 (by omega))) (vsi (hr 7 (by omega))) (vsb (sbq (hr 8 (by omega)))) (vsb (sbq (hr 9 (by omega)))) (vsi (hr 10 (by omega))) (vsi (hr 11 (by omega))) (vsi (hr 12 (by omega))) (vsi (hr 13 (by omega))) hr
end Go.Ev.X
end
/-
 SchedStops: its runs.
-/
set_option linter.unusedSimpArgs false
set_option linter.unusedVariables false
set_option maxRecDepth 100000
noncomputable section
namespace Go.Ev.X
open Go Go.Ev Go.Proofs
def dq4 : Nat → Option Dr := fun r => if Nat.beq r 21 then some (.tail 31 [31, 32, 33, 34]) else if Nat.beq r 20 then some (.floK [6] [(true, 0), (true, 1), (true, 2), (true, 3), (true, 4), (false, 5), (false, 6), (true, 7), (true, 8), (true, 9)] 10 [11, 12]) else if Nat.beq r 14 then some (.floK [6] [(true, 0), (true, 1), (true, 2), (true, 3), (true, 4), (false, 5), (false, 6), (true, 7), (true, 8), (true, 9)] 10 [11, 12]) else none
def qx4 : CutX := ⟨(.seqR (.ops [.op (some k4) none (.mov (.c (.b false)))]) (.seqR (.ops [.call (some k19) none (.c (.fn 8 [] [])) [], .op (some k5) none (.mov (.s k19))]) (.seqR (.ops [.call (some k20) none (.c (.fn 9 [] [])) [], .op (some k6) none (.mov (.s k20))]) (.seqR (.seq (.ops [.op (some k21) none (.mov (.s k6)), .op (some k22) none (.bin .eql .ptr (.s k21) (.c .nil))]) (.cond k22 (.seq (.ops [.op (some k4) none (.mov (.c (.b false)))]) .ret) .skip)) (.seqL (.seqR (.ops [.op (some k7) none (.mov (.c (.i .i64 0)))]) (.block 0 .hole)) (.seq (.ops [.op (some k39) none (.mov (.s k1)), .call (some k40) none (.c (.fn 10 [] [])) [.s k39], .op (some k8) none (.mov (.s k40))]) (.seq (.ops [.op (some k9) none (.new 48 (zT ++ (zT ++ (zT ++ zT))))]) (.seq (.seq (.ops [.op (some k10) none (.mov (.c (.i .i64 0)))]) (.block 2 (.loop (.seq (.seq (.ops [.op (some k41) none (.mov (.s k10)), .op (some k42) none (.bin .lss .num (.s k41) (.c (.i .i64 4)))]) (.cond k42 .skip (.exit 2))) (.seq (.block 3 (.seq (.kops [k6] [(true, .op (some k46) none (.mov (.s k6))), (true, .op (some k47) none (.nilc (.s k46))), (true, .op (some k48) none (.fad 0 (.s k47))), (true, .op (some k49) none (.ld (.s k48))), (true, .op (some k50) none (.mov (.s k10))), (false, .call (some k51) none (.c (.fn 10 [] [])) [.s k50]), (false, .call (some k52) none (.c (.fn 18 [] [])) [.s k49, .s k51]), (true, .op (some k45) none (.mov (.s k52))), (true, .op (some k53) none (.ext (.s k45) 0)), (true, .op (some k54) none (.ext (.s k45) 1)), (false, .op (some k11) none (.new 40 zT)), (false, zS 30 k11 k53), (false, .op (some k12) none (.mov (.s k54)))]) (.ops [.op (some k55) none (.mov (.s k10)), .op (some k56) none (.ldn 30 (.s k11)), .op (some k57) none (.ixa 4 30 (.s k9) (.s k55)), zS 30 k57 k56]))) (.ops [.op (some k43) none (.mov (.s k10)), .op (some k44) none (.bin .add .num (.s k43) (.c (.i .i64 1))), .op (some k10) none (.mov (.s k44))])))))) (.seq (.ops [.op (some k58) none (.mov (.s k6)), .op (some k59) none (.nilc (.s k58)), .op (some k60) none (.fad 0 (.s k59)), .op (some k61) none (.ld (.s k60)), .op (some k62) none (.mov (.s k8)), .call (some k63) none (.c (.fn 17 [] [])) [.s k61, .s k62, (.c (.i .i64 0))]]) (.seq (.seq (.ops [.op (some k13) none (.mov (.c (.i .i64 0)))]) (.block 4 (.loop (.seq (.seq (.ops [.op (some k64) none (.mov (.s k13)), .op (some k65) none (.bin .lss .num (.s k64) (.c (.i .i64 4)))]) (.cond k65 .skip (.exit 4))) (.seq (.block 5 (.seq (.kops [k6] [(true, .op (some k69) none (.mov (.s k6))), (true, .op (some k70) none (.nilc (.s k69))), (true, .op (some k71) none (.fad 0 (.s k70))), (true, .op (some k72) none (.ld (.s k71))), (true, .op (some k73) none (.mov (.s k13))), (false, .call (some k74) none (.c (.fn 10 [] [])) [.s k73]), (false, .call (some k75) none (.c (.fn 18 [] [])) [.s k72, .s k74]), (true, .op (some k68) none (.mov (.s k75))), (true, .op (some k76) none (.ext (.s k68) 0)), (true, .op (some k77) none (.ext (.s k68) 1)), (false, .op (some k14) none (.new 40 zT)), (false, zS 30 k14 k76), (false, .op (some k15) none (.mov (.s k77)))]) (.seq (.seq (.qops [.op (some k78) none (.mov (.s k15)), .op (some k79) none (.bin .neq .num (.s k78) (.c (.i .i64 0))), .op (some k80) none (.mov (.s k79)), .op (some k81) (some (k80, false)) (.mov (.s k13)), .call (some k82) (some (k80, false)) (.c (.fn 10 [] [])) [.s k81], .op (some k83) (some (k80, false)) (.mov (.s k8)), .op (some k84) (some (k80, false)) (.bin .neq .num (.s k82) (.s k83)), .op (some k85) (some (k80, false)) (.mov (.s k84)), .op (some k86) (some (k85, true)) (.fad 0 (.s k14)), .op (some k87) (some (k85, true)) (.ld (.s k86)), .op (some k88) (some (k85, true)) (.mov (.s k13)), .op (some k89) (some (k85, true)) (.ixa 4 30 (.s k9) (.s k88)), .op (some k90) (some (k85, true)) (.fad 0 (.s k89)), .op (some k91) (some (k85, true)) (.ld (.s k90)), .op (some k92) (some (k85, true)) (.bin .neq .num (.s k87) (.s k91)), .op (some k93) (some (k85, true)) (.mov (.s k92)), .op (some k94) (some (k93, false)) (.fad 3 (.s k14)), .op (some k95) (some (k93, false)) (.ld (.s k94)), .op (some k96) (some (k93, false)) (.mov (.s k13)), .op (some k97) (some (k93, false)) (.ixa 4 30 (.s k9) (.s k96)), .op (some k98) (some (k93, false)) (.fad 3 (.s k97)), .op (some k99) (some (k93, false)) (.ld (.s k98)), .op (some k100) (some (k93, false)) (.bin .neq .bool (.s k95) (.s k99)), .op (some k101) (some (k85, true)) (.pick (.s k93) (.c (.b true)) (.s k100)), .op (some k102) (some (k85, true)) (.mov (.s k101)), .op (some k103) (some (k102, false)) (.fad 2 (.s k14)), .op (some k104) (some (k102, false)) (.ld (.s k103)), .op (some k105) (some (k102, false)) (.mov (.s k13)), .op (some k106) (some (k102, false)) (.ixa 4 30 (.s k9) (.s k105)), .op (some k107) (some (k102, false)) (.fad 2 (.s k106)), .op (some k108) (some (k102, false)) (.ld (.s k107))]) (.ops [.op (some k109) (some (k102, false)) (.bin .neq .num (.s k104) (.s k108)), .op (some k110) (some (k85, true)) (.pick (.s k102) (.c (.b true)) (.s k109)), .op (some k111) (some (k80, false)) (.pick (.s k85) (.s k110) (.c (.b false))), .op (some k112) none (.pick (.s k80) (.c (.b true)) (.s k111))])) (.cond k112 (.seq (.ops [.op (some k4) none (.mov (.c (.b false)))]) .ret) .skip)))) (.ops [.op (some k66) none (.mov (.s k13)), .op (some k67) none (.bin .add .num (.s k66) (.c (.i .i64 1))), .op (some k13) none (.mov (.s k67))])))))) (.seq (.ops [.op (some k113) none (.mov (.s k6)), .op (some k114) none (.nilc (.s k113)), .op (some k115) none (.fad 0 (.s k114)), .op (some k116) none (.ld (.s k115)), .call (some k117) none (.c (.fn 13 [] [])) [.s k116]]) (.seq (.ops [.op (some k118) none (.mov (.s k6)), .op (some k119) none (.nilc (.s k118)), .op (some k120) none (.fad 0 (.s k119)), .op (some k121) none (.ld (.s k120)), .call (some k122) none (.c (.fn 14 [] [])) [.s k121]]) (.seq (.ops [.op (some k123) none (.mov (.s k6)), .op (some k124) none (.nilc (.s k123)), .op (some k125) none (.fad 0 (.s k124)), .op (some k126) none (.ld (.s k125)), .call (some k127) none (.c (.fn 13 [] [])) [.s k126]]) (.seq (.ops [.op (some k128) none (.mov (.s k6)), .op (some k129) none (.nilc (.s k128)), .op (some k130) none (.fad 0 (.s k129)), .op (some k131) none (.ld (.s k130)), .call (some k132) none (.c (.fn 15 [] [])) [.s k131], .op (some k16) none (.mov (.s k132))]) (.seq (.ops [.op (some k134) none (.mov (.s k6)), .op (some k135) none (.nilc (.s k134)), .op (some k136) none (.fad 0 (.s k135)), .op (some k137) none (.ld (.s k136)), .op (some k138) none (.mov (.s k8)), .call (some k139) none (.c (.fn 18 [] [])) [.s k137, .s k138], .op (some k133) none (.mov (.s k139)), .op (some k140) none (.ext (.s k133) 0), .op (some k141) none (.ext (.s k133) 1), .op (some k17) none (.new 40 zT), zS 30 k17 k140, .op (some k18) none (.mov (.s k141))]) (.seq (.ops [.op (some k142) none (.mov (.s k5)), .op (some k143) none (.mov (.s k142)), .op (some k144) (some (k143, true)) (.mov (.s k18)), .op (some k145) (some (k143, true)) (.bin .eql .num (.s k144) (.c (.i .i64 0))), .op (some k146) none (.pick (.s k143) (.s k145) (.c (.b false))), .op (some k147) none (.mov (.s k146)), .op (some k148) (some (k147, true)) (.mov (.s k16)), .op (some k149) (some (k147, true)) (.mov (.s k8)), .op (some k150) (some (k147, true)) (.bin .neq .num (.s k148) (.s k149)), .op (some k151) none (.pick (.s k147) (.s k150) (.c (.b false))), .op (some k152) none (.mov (.s k151)), .op (some k153) (some (k152, true)) (.fad 3 (.s k17)), .op (some k154) (some (k152, true)) (.ld (.s k153)), .op (some k155) (some (k152, true)) (.not (.s k154)), .op (some k156) none (.pick (.s k152) (.s k155) (.c (.b false))), .op (some k157) none (.mov (.s k156)), .op (some k158) (some (k157, true)) (.fad 0 (.s k17)), .op (some k159) (some (k157, true)) (.ld (.s k158)), .op (some k160) (some (k157, true)) (.bin .eql .num (.s k159) (.c (.i .i64 0))), .op (some k161) none (.pick (.s k157) (.s k160) (.c (.b false))), .op (some k4) none (.mov (.s k161))]) .ret)))))))))))))))), (.seq (.seq (.ops [.op (some k23) none (.mov (.s k7)), .op (some k24) none (.mov (.s k0)), .op (some k25) none (.lens (.s k24)), .op (some k26) none (.bin .lss .num (.s k23) (.s k25)), .op (some k27) none (.mov (.s k26)), .op (some k28) (some (k27, true)) (.mov (.s k7)), .op (some k29) (some (k27, true)) (.bin .lss .num (.s k28) (.c (.i .i64 100))), .op (some k30) none (.pick (.s k27) (.s k29) (.c (.b false)))]) (.cond k30 .skip (.exit 0))) (.seq (.block 1 (.ops [.op (some k33) none (.mov (.s k6)), .op (some k34) none (.mov (.s k0)), .op (some k35) none (.mov (.s k7)), .op (some k36) none (.ixs 3 (.s k34) (.s k35)), .op (some k37) none (.ldn 3 (.s k36)), .call (some k38) none (.c (.fn 19 [] [])) [.s k33, .s k37]])) (.ops [.op (some k31) none (.mov (.s k7)), .op (some k32) none (.bin .add .num (.s k31) (.c (.i .i64 1))), .op (some k7) none (.mov (.s k32))]))), [.tmp k4]⟩
def frS : List (Ky × V) := [(k0, .fs q1 0), (k1, .si .i64 (.v 20)), (k5, .b true), (k6, .ptr q1379 0), (k7, .si .i64 (.v 2))]
def wE (e : Nat) : Nat := Nat.div e 16
def qE (e k : Nat) : Bool := Nat.beq (Nat.mod (Nat.div (Nat.mod e 16) (Nat.pow 2 k)) 2) 1
def tcN (k : Nat) : Nat := 1024 + 64 * k
def th0 (e k : Nat) : Ent := ⟨18, [.i .i64 (.ofNat (tcN k))], 101 + k, .tup [tA (500 + 40 * k) (sv (500 + 40 * k)) (sv (501 + 40 * k)) (sv (502 + 40 * k)) (.b (qE e k)) (sv (504 + 40 * k)) (sv (505 + 40 * k)) (sv (506 + 40 * k)) (sv (507 + 40 * k)) (tv (508 + 40 * k)) (tv (509 + 40 * k)) (sv (510 + 40 * k)) (sv (511 + 40 * k)) (sv (512 + 40 * k)) (sv (513 + 40 * k)), .i .i64 0], .v (320 + k)⟩
def th1 (e k : Nat) : Ent := ⟨18, [.i .i64 (.ofNat (tcN k))], 106 + k, .tup [bif Nat.beq k (wE e) then tD (700 + 40 * k) else tA (700 + 40 * k) (sv (500 + 40 * k)) (sv (701 + 40 * k)) (sv (502 + 40 * k)) (.b (qE e k)) (sv (704 + 40 * k)) (sv (705 + 40 * k)) (sv (706 + 40 * k)) (sv (707 + 40 * k)) (tv (708 + 40 * k)) (tv (709 + 40 * k)) (sv (710 + 40 * k)) (sv (711 + 40 * k)) (sv (712 + 40 * k)) (sv (713 + 40 * k)), .i .i64 0], .v (325 + k)⟩
def esS2 (e : Nat) : List Ent := [⟨13, [], 110, .tup [], .v 329⟩, ⟨14, [], 111, .tup [], .v 330⟩, ⟨13, [], 112, .tup [], .v 331⟩, ⟨15, [], 113, .si .i64 (.v 400), .v 332⟩,
 ⟨18, [.i .i64 (.ofNat (tcN (wE e)))], 114, .tup [tA 900 (.i .i64 0) (sv 901) (sv 902) (.b false) (sv 904) (sv 905) (sv 906) (sv 907) (tv 908) (tv 909) (sv 910) (sv 911) (sv 912) (sv 913), .i .i64 0], .v 333⟩]
def esS1 (e : Nat) : List Ent := th1 e 0 :: th1 e 1 :: th1 e 2 :: th1 e 3 :: esS2 e
def esS (e : Nat) : List Ent := th0 e 0 :: th0 e 1 :: th0 e 2 :: th0 e 3 :: ⟨17, [.i .i64 (.ofNat (tcN (wE e))), .i .i64 0], 105, .tup [], .v 324⟩ :: esS1 e
def pS (k : Nat) : PEnt := ⟨27, [.i .i64 (.ofNat k), .i .i64 4], .i .i64 (.ofNat k)⟩
def psS (e : Nat) : List PEnt := [⟨27, [.si .i64 (.v 20), .i .i64 4], .i .i64 (.ofNat (wE e))⟩, pS 0, pS 1, pS 2, pS 3]
def fS1 (k : Nat) : List (SB × Bool) := [(.cmp .neq (.v (500 + 40 * k)) (.v (500 + 40 * k)), false), (.cmp .neq (.v (502 + 40 * k)) (.v (502 + 40 * k)), false)]
def fES (e : Nat) : List (SB × Bool) := (.cmp .neq (.v 400) (.lit (.ofNat (tcN (wE e)))), true) :: (fS1 0 ++ (fS1 1 ++ (fS1 2 ++ fS1 3)))
def cxES (e : Nat) : Cx := cxM cx0 cP 100 (esS e) (psS e)
def outS (e : Nat) (b : Bool) : Nat := runJ (stB frS) qx4.x qx4.z (koB qx4.rs) ⟨callT (cxES e) 20, 4, 20000⟩ (11 + e) ⟨fO 100 b ++ fES e, []⟩ []
def goS (j : Nat) : Nat := runJ (stB frS) qx4.x qx4.z (koB qx4.rs) ⟨callT (cxA j) 20, 4, 20000⟩ j ⟨fG 100 j, []⟩ (nxB 64 (sgK j))
def hInS : H := ⟨q2, q2, (PT.e : PT O).set q1 (.row 0 3 (.v 1) (.v 2) [])⟩
def inBS : CallT := asRow 9 q2 (.arr 37 8192 13 (.i .u64 0) abt0) (.oa 37 200 8192 13 .nil) (asRow 9 q1377 (.arr 37 8192 13 (.i .u64 0) abt0) (.oa 37 100 8192 13 .nil) (memoS gb (callAx call1)))
def inS : Nat := initFr [.fs q1 0, .si .i64 (.v 20)] (fun fr => zIn qx4.z ⟨inBS, 4, 20000⟩ fr hInS ⟨[], []⟩ (fun fr h _ => nextK (stB frS) (nxB 64 sgK0) fr h) (koB qx4.rs))
theorem qcut4 : cutX (tyOf Tryz.prog) dq4 Tryz.f4 = some qx4 := by kernel_rfl
theorem wq4 : drawF dq4 Tryz.f4 = true := by kernel_rfl
theorem goS_ok : allB (fun j => Nat.beq (goS (j + 1)) 0) (rng 10) = true := by decide +kernel
theorem outS_ok : allB (fun e => Nat.beq (outS e true) 0 && Nat.beq (outS e false) 0) (rng 64) = true := by decide +kernel
theorem inS_ok : inS = 0 := by decide +kernel
end Go.Ev.X
end
/-
 SchedStops: who stops, and what stays; for each state of the words an end that fits; the law.
-/
set_option linter.unusedSimpArgs false
set_option linter.unusedVariables false
set_option maxRecDepth 100000
noncomputable section
namespace Go.Ev.X
open Go Go.Ev Go.Proofs
variable {E : Env} {f f' : Nat → Int} {Q : Nat → List Nat} {P : Nat → TV} {c t : Nat}
def OkT (f : Nat → Int) (t : Nat) : Prop := ∃ Q P c, SS TT f Q P c ∧ (∀ t, TT t → 1 ≤ (P t).sl ∧ (P t).sl ≤ 5) ∧ (P t).st = 0
theorem st_set {P : Nat → TV} {t u : Nat} {v : TV} (h : (P t).st = 0) (hv : v.st = (P u).st) : (setTh P u v t).st = 0 := by
 by_cases e : t = u
 ·subst e; rw [setTh_same, hv]; exact h
 ·rw [setTh_other _ _ e]; exact h
theorem stop_t (h : OkW f) (ht : TT t) : ∃ f', OkT f' t ∧ MemE PP cP 17 [.int .i64 t, .int .i64 0] f (.tuple #[]) f' ∧ (∀ u, TT u → RightAt f u) ∧ (∀ u, TT u → RightAt f' u) ∧ ∀ u, TT u → u ≠ t → (getT f' u).st = (getT f u).st ∧ (getT f' u).sl = (getT f u).sl ∧ (getT f' u).q = (getT f u).q := by
 obtain ⟨Q, P, c, s, hs⟩ := h
 have s' := stop_S TT_thr s ht (x := 0) (by omega) (by omega)
 refine ⟨_, ⟨_, _, _, s', sl_set hs t (hs t ht), by rw [setTh_same]⟩, stop0_cp s ht, s.q.thr, s'.q.thr, fun u hu hne => ⟨?_, ?_, ?_⟩⟩
 ·rw [s'.st hu, s.st hu, setTh_other _ _ hne]
 ·rw [s'.sl hu, s.sl hu, setTh_other _ _ hne]
 ·have r := s.run u hu
  have r' := s'.run u hu
  rw [setTh_other _ _ hne] at r'
  have n := s.nc
  have n' := s'.nc
  have hc : (u = if t = c then 0 else c) ↔ u = c := by
   have := TT_thr.lo u hu
   split
   ·rename_i e; subst e; constructor
    ·intro h; omega
    ·intro h; exact absurd h hne
   ·exact Iff.rfl
  by_cases e : u = c
  ·have h1 := n (e ▸ hu)
   have h2 := n' ((hc.2 e) ▸ hu)
   rw [← hc.2 e] at h2
   rw [h2, e, h1]
  ·have r1 : (P u).st = 1 ↔ (getT f u).q = true := by rw [r]; exact ⟨fun h => h.resolve_left e, .inr⟩
   have r2 : (P u).st = 1 ↔ (getT (stopF f t 0) u).q = true := by rw [r', hc]; exact ⟨fun h => h.resolve_left e, .inr⟩
   exact Bool.eq_iff_iff.2 (r2.symm.trans r1)
theorem settle_t (h : OkT f t) : ∃ f', OkT f' t ∧ MemE PP cP 13 [] f (.tuple #[]) f' := by
 obtain ⟨Q, P, c, s, hs, h0⟩ := h
 obtain ⟨o, ho, hp⟩ := high_p s.q
 cases ho with
 | none hz => exact ⟨f, ⟨_, _, _, s, hs, h0⟩, settle0_p s hp⟩
 | some p hp256 hne hab =>
  match hQ : Q p, hne with
  | h :: r, _ =>
   have e : topH Q (some p) = (h : Int) := by show ((hdN (Q p) 0 : Nat) : Int) = h; rw [hQ]; rfl
   rw [e] at hp
   obtain ⟨hT, _, hq⟩ := s.q.el p h hp256 (by rw [hQ]; simp)
   refine ⟨settleA f h, ?_, settle_cp s hT hq hp⟩
   obtain ⟨g1, g2, g3⟩ := settle_S TT_thr s hp256 hQ
   by_cases h0' : c = 0
   ·exact ⟨_, _, _, g1 h0', hs, h0⟩
   ·by_cases hle : (P h).pr ≤ (P c).pr
    ·rw [g2 h0' hle]; exact ⟨_, _, _, s, hs, h0⟩
    ·exact ⟨_, _, _, g3 h0' hle, hs, h0⟩
theorem tick_t (h : OkT f t) : ∃ f', OkT f' t ∧ MemE PP cP 14 [] f (.tuple #[]) f' := by
 obtain ⟨Q, P, c, s, hs, h0⟩ := h
 refine ⟨tickF f, ?_, tick_cp s (fun hc => (hs c hc).1)⟩
 unfold tickF
 rcases s.ct with rfl | hc
 ·rw [if_pos (show f 1 = 0 from s.cur)]; exact ⟨_, _, _, s, hs, h0⟩
 ·have := TT_thr.lo c hc
  rw [if_neg (show ¬ f 1 = 0 by rw [s.cur]; omega), cur_nat s]
  have h1 := hs c hc
  by_cases hl : (P c).sl ≤ 1
  ·exact ⟨_, _, _, (tickA_S TT_thr s hc h1.1).1 hl, sl_set hs c (show (1 : Int) ≤ 5 ∧ (5 : Int) ≤ 5 by omega), st_set h0 rfl⟩
  ·exact ⟨_, _, _, (tickA_S TT_thr s hc h1.1).2 (by omega), sl_set hs c (show (1 : Int) ≤ (P c).sl - 1 ∧ (P c).sl - 1 ≤ 5 by omega), st_set h0 rfl⟩
def EOS (e : Nat) (E : Env) : Prop := EntsOk PP cP E 100 (esS e) ∧ PsOk PP E (psS e) ∧ FsOk E (fES e)
theorem tcN_tt {k : Nat} (h : k < 4) : TT (tcN k) := by unfold tcN TT; omega
theorem bits4 (b0 b1 b2 b3 : Bool) : ∃ m, m < 16 ∧ ∀ e, e % 16 = m → qE e 0 = b0 ∧ qE e 1 = b1 ∧ qE e 2 = b2 ∧ qE e 3 = b3 := by
 refine ⟨b0.toNat + 2 * b1.toNat + 4 * b2.toNat + 8 * b3.toNat, ?_, fun e h => ?_⟩
 ·cases b0 <;> cases b1 <;> cases b2 <;> cases b3 <;> decide
 ·unfold qE
  rw [show Nat.mod e 16 = _ from h]
  cases b0 <;> cases b1 <;> cases b2 <;> cases b3 <;> exact ⟨rfl, rfl, rfl, rfl⟩
theorem pS_ok {k : Nat} (hk : k < 4) : PEntOk PP E (pS k) :=
 ⟨trivial, Tryz.call27, fun ρ w => by
  have := pick_c (P := PP) (fun _ => rowF 0 (fun _ => 0)) (fun E _ => hC0 E) (fun E _ => noC) pk4_0 pk4_1 (c := (k : Int)) (by omega) w
  refine (show Calls PP 27 (γL E ρ [.i .i64 (.ofNat k), .i .i64 4]).toArray w _ from ?_)
  have hargs : (γL E ρ [.i .i64 (.ofNat k), .i .i64 4]).toArray = #[.int .i64 (k : Int), .int .i64 4] := rfl
  rw [hargs]
  refine this.mono ?_
  rintro ex w' ⟨rfl, hb⟩
  refine ⟨?_, hb⟩
  have : pickI (k : Int) 4 = (k : Int) := by
   have : k = 0 ∨ k = 1 ∨ k = 2 ∨ k = 3 := by omega
   rcases this with rfl | rfl | rfl | rfl <;> rfl
  rw [this]; rfl⟩
theorem pW_ok {a : Int} (ha : I64 a) (h20 : E.i 20 = a) {w : Nat} (hw : pickI a 4 = (w : Int)) : PEntOk PP E ⟨27, [.si .i64 (.v 20), .i .i64 4], .i .i64 (.ofNat w)⟩ :=
 ⟨trivial, Tryz.call27, fun ρ wd => by
  have := pick_c (P := PP) (fun _ => rowF 0 (fun _ => 0)) (fun E _ => hC0 E) (fun E _ => noC) pk4_0 pk4_1 ha wd
  refine (show Calls PP 27 (γL E ρ [.si .i64 (.v 20), .i .i64 4]).toArray wd _ from ?_)
  have hargs : (γL E ρ [.si .i64 (.v 20), .i .i64 4]).toArray = #[.int .i64 a, .int .i64 4] := by simp only [γL, V.γ, SE.den, h20]
  rw [hargs]
  refine this.mono ?_
  rintro ex w' ⟨rfl, hb⟩
  refine ⟨?_, hb⟩
  rw [hw]; rfl⟩
def vsS (f f1 f4 : Nat → Int) (w c k4 k5 k6 k7 k8 : Nat) (i : Nat) : Int :=
 if i = 324 then k4
 else if i = 329 then k5
 else if i = 330 then k6
 else if i = 331 then k7
 else if i = 332 then k8
 else if i < 400 then 20
 else if i = 400 then c
 else if i < 700 then fldT (getT f (tcN ((i - 500) / 40))) (regs f (tcN ((i - 500) / 40))) ((i - 500) % 40)
 else if i < 900 then fldT (getT f1 (tcN ((i - 700) / 40))) (regs f1 (tcN ((i - 700) / 40))) ((i - 700) % 40)
 else fldT (getT f4 (tcN w)) (regs f4 (tcN w)) (i - 900)
theorem vsS_5 {f1 f4 : Nat → Int} {w k4 k5 k6 k7 k8 k j : Nat} (hk : k < 4) (hj : j < 30) : vsS f f1 f4 w c k4 k5 k6 k7 k8 (500 + 40 * k + j) = fldT (getT f (tcN k)) (regs f (tcN k)) j := by
 unfold vsS
 rw [if_neg (by omega), if_neg (by omega), if_neg (by omega), if_neg (by omega), if_neg (by omega), if_neg (by omega), if_neg (by omega), if_pos (by omega), show (500 + 40 * k + j - 500) / 40 = k from by omega, show (500 + 40 * k + j - 500) % 40 = j from by omega]
theorem vsS_7 {f1 f4 : Nat → Int} {w k4 k5 k6 k7 k8 k j : Nat} (hk : k < 4) (hj : j < 30) : vsS f f1 f4 w c k4 k5 k6 k7 k8 (700 + 40 * k + j) = fldT (getT f1 (tcN k)) (regs f1 (tcN k)) j := by
 unfold vsS
 rw [if_neg (by omega), if_neg (by omega), if_neg (by omega), if_neg (by omega), if_neg (by omega), if_neg (by omega), if_neg (by omega), if_neg (by omega), if_pos (by omega), show (700 + 40 * k + j - 700) / 40 = k from by omega, show (700 + 40 * k + j - 700) % 40 = j from by omega]
theorem vsS_9 {f1 f4 : Nat → Int} {w k4 k5 k6 k7 k8 j : Nat} (hj : j < 30) : vsS f f1 f4 w c k4 k5 k6 k7 k8 (900 + j) = fldT (getT f4 (tcN w)) (regs f4 (tcN w)) j := by
 unfold vsS
 rw [if_neg (by omega), if_neg (by omega), if_neg (by omega), if_neg (by omega), if_neg (by omega), if_neg (by omega), if_neg (by omega), if_neg (by omega), if_neg (by omega), show 900 + j - 900 = j from by omega]
theorem vsS_lo {f1 f4 : Nat → Int} {w k4 k5 k6 k7 k8 i : Nat} (h1 : i < 400) (h2 : i < 324 ∨ (324 < i ∧ i < 329) ∨ 332 < i) : vsS f f1 f4 w c k4 k5 k6 k7 k8 i = 20 := by
 unfold vsS
 rw [if_neg (by omega), if_neg (by omega), if_neg (by omega), if_neg (by omega), if_neg (by omega), if_pos (by omega)]
def rowsS (f f1 f2 f3 f4 : Nat → Int) (q : Nat) : Row := if q < 105 then rowF 8192 f else if q < 110 then rowF 8192 f1 else if q < 111 then rowF 8192 f2 else if q < 112 then rowF 8192 f3 else rowF 8192 f4
theorem th0_ok {e k : Nat} (hk : k < 4) (hr : RightAt f (tcN k)) (h1 : WordsIs (E.s (100 + k)).cs 8192 f) (h2 : WordsIs (E.s (101 + k)).cs 8192 f) (h20 : E.i (320 + k) = 20) (h5 : ∀ j, j < 30 → E.i (500 + 40 * k + j) = fldT (getT f (tcN k)) (regs f (tcN k)) j) (hq : qE e k = (getT f (tcN k)).q) : EntOk PP cP E (100 + k) (th0 e k) := by
 have g : ∀ j, j < 30 → E.i (500 + j + 40 * k) = fldT (getT f (tcN k)) (regs f (tcN k)) j := fun j hj => by rw [show 500 + j + 40 * k = 500 + 40 * k + j from by omega]; exact h5 j hj
 exact ent_g (k := 20) h1 h2 (thr_p (tcN_tt hk) hr) (by omega) h20 (fun ρ => arg1 rfl) (fun ρ => tupT (tA_ok (vsi (g 0 (by omega))) (vsi (g 1 (by omega))) (vsi (g 2 (by omega))) (by show Value.bool (qE e k) = _; rw [hq]) (vsi (g 4 (by omega))) (vsi (g 5 (by omega))) (vsi (g 6 (by omega))) (vsi (g 7 (by omega))) (vsb (sbq (g 8 (by omega)))) (vsb (sbq (g 9 (by omega)))) (vsi (g 10 (by omega))) (vsi (g 11 (by omega))) (vsi (g 12 (by omega))) (vsi (g 13 (by omega))) h5))
theorem th1_ok {e k : Nat} (hk : k < 4) (hr : RightAt f' (tcN k)) (h1 : WordsIs (E.s (105 + k)).cs 8192 f') (h2 : WordsIs (E.s (106 + k)).cs 8192 f') (h20 : E.i (325 + k) = 20) (h5 : ∀ j, j < 30 → E.i (500 + 40 * k + j) = fldT (getT f (tcN k)) (regs f (tcN k)) j) (h7 : ∀ j, j < 30 → E.i (700 + 40 * k + j) = fldT (getT f' (tcN k)) (regs f' (tcN k)) j)
  (hq : qE e k = (getT f (tcN k)).q) (hs : k ≠ wE e → (getT f' (tcN k)).st = (getT f (tcN k)).st ∧ (getT f' (tcN k)).sl = (getT f (tcN k)).sl ∧ (getT f' (tcN k)).q = (getT f (tcN k)).q) : EntOk PP cP E (105 + k) (th1 e k) := by
 have g : ∀ j, j < 30 → E.i (700 + j + 40 * k) = fldT (getT f' (tcN k)) (regs f' (tcN k)) j := fun j hj => by rw [show 700 + j + 40 * k = 700 + 40 * k + j from by omega]; exact h7 j hj
 refine ent_g (k := 20) h1 h2 (thr_p (tcN_tt hk) hr) (by omega) h20 (fun ρ => arg1 rfl) (fun ρ => ?_)
 by_cases hw : k = wE e
 ·have : Nat.beq k (wE e) = true := by simpa using hw
  show V.γ E ρ (.tup [bif Nat.beq k (wE e) then _ else _, .i .i64 0]) = _
  rw [this]
  exact tupT (tD_ok h7)
 ·have : Nat.beq k (wE e) = false := by rw [Bool.eq_false_iff]; simpa using hw
  obtain ⟨e1, e2, e3⟩ := hs hw
  show V.γ E ρ (.tup [bif Nat.beq k (wE e) then _ else _, .i .i64 0]) = _
  rw [this]
  exact tupT (tA_ok (vsi ((h5 0 (by omega)).trans e1.symm)) (vsi (g 1 (by omega))) (vsi ((show E.i (502 + 40 * k) = _ by rw [show 502 + 40 * k = 500 + 40 * k + 2 from by omega]; exact h5 2 (by omega)).trans e2.symm)) (by show Value.bool (qE e k) = _; rw [hq, e3]) (vsi (g 4 (by omega))) (vsi (g 5 (by omega))) (vsi (g 6 (by omega))) (vsi (g 7 (by omega))) (vsb (sbq (g 8 (by omega)))) (vsb (sbq (g 9 (by omega)))) (vsi (g 10 (by omega))) (vsi (g 11 (by omega))) (vsi (g 12 (by omega))) (vsi (g 13 (by omega))) h7)
theorem ends_s {a b : Int} (ha : I64 a) : Ends 64 a b EOS := fun f hf => by
 have hp := pickI_lt (c := a) (n := 4) (by omega)
 obtain ⟨w, hw⟩ : ∃ w : Nat, pickI a 4 = (w : Int) := ⟨(pickI a 4).toNat, by omega⟩
 have hw4 : w < 4 := by omega
 have ht := tcN_tt hw4
 obtain ⟨f1, o1, c1, hr0, hr1, hst⟩ := stop_t hf ht
 obtain ⟨f2, o2, k5, p5, c5⟩ := settle_t o1
 obtain ⟨f3, o3, k6, p6, c6⟩ := tick_t o2
 obtain ⟨f4, o4, k7, p7, c7⟩ := settle_t o3
 obtain ⟨k4, p4, c4⟩ := c1
 obtain ⟨Q, P, c, s, hs, h0⟩ := o4
 obtain ⟨k8, p8, c8⟩ := cur_p s.ct s.cur
 obtain ⟨m, hm, hq⟩ := bits4 (getT f (tcN 0)).q (getT f (tcN 1)).q (getT f (tcN 2)).q (getT f (tcN 3)).q
 have hq := hq (16 * w + m) (by omega)
 have hwE : wE (16 * w + m) = w := by show (16 * w + m) / 16 = w; omega
 generalize he : 16 * w + m = e at *
 have hqk : ∀ k, k < 4 → qE e k = (getT f (tcN k)).q := fun k hk => by
  have : k = 0 ∨ k = 1 ∨ k = 2 ∨ k = 3 := by omega
  rcases this with rfl | rfl | rfl | rfl
  ·exact hq.1
  ·exact hq.2.1
  ·exact hq.2.2.1
  ·exact hq.2.2.2
 refine ⟨e, vsS f f1 f4 w c k4 k5 k6 k7 k8, rowsS f f1 f2 f3 f4, by omega, fun E h => ?_⟩
 have r0 : ∀ q, 100 ≤ q → q < 105 → WordsIs (E.s q).cs 8192 f := fun q h1 h2 => by
  by_cases e : q = 100
  ·rw [e]; exact h.p
  ·rw [h.s q (by omega) (by omega)]; unfold rowsS; rw [if_pos h2]; exact rowF_is _ _
 have r1 : ∀ q, 105 ≤ q → q < 110 → WordsIs (E.s q).cs 8192 f1 := fun q h1 h2 => by
  rw [h.s q (by omega) (by omega)]; unfold rowsS; rw [if_neg (by omega), if_pos h2]; exact rowF_is _ _
 have r2 : WordsIs (E.s 110).cs 8192 f2 := by rw [h.s 110 (by omega) (by omega)]; exact rowF_is _ _
 have r3 : WordsIs (E.s 111).cs 8192 f3 := by rw [h.s 111 (by omega) (by omega)]; exact rowF_is _ _
 have r4 : ∀ q, 112 ≤ q → q < 200 → WordsIs (E.s q).cs 8192 f4 := fun q h1 h2 => by
  rw [h.s q (by omega) (by omega)]; unfold rowsS; rw [if_neg (by omega), if_neg (by omega), if_neg (by omega), if_neg (by omega)]; exact rowF_is _ _
 have i400 : E.i 400 = (c : Int) := (h.i 400 (by omega) (by omega)).trans rfl
 have h5 : ∀ k, k < 4 → ∀ j, j < 30 → E.i (500 + 40 * k + j) = fldT (getT f (tcN k)) (regs f (tcN k)) j := fun k hk j hj => (h.i _ (by omega) (by omega)).trans (vsS_5 hk hj)
 have h7 : ∀ k, k < 4 → ∀ j, j < 30 → E.i (700 + 40 * k + j) = fldT (getT f1 (tcN k)) (regs f1 (tcN k)) j := fun k hk j hj => (h.i _ (by omega) (by omega)).trans (vsS_7 hk hj)
 have h9 : ∀ j, j < 30 → E.i (900 + j) = fldT (getT f4 (tcN w)) (regs f4 (tcN w)) j := fun j hj => (h.i _ (by omega) (by omega)).trans (vsS_9 hj)
 have t0 : ∀ k, k < 4 → EntOk PP cP E (100 + k) (th0 e k) := fun k hk => th0_ok hk (hr0 _ (tcN_tt hk)) (r0 _ (by omega) (by omega)) (r0 _ (by omega) (by omega)) ((h.i _ (by omega) (by omega)).trans (vsS_lo (by omega) (by omega))) (h5 k hk) (hqk k hk)
 have t1 : ∀ k, k < 4 → EntOk PP cP E (105 + k) (th1 e k) := fun k hk => th1_ok hk (hr1 _ (tcN_tt hk)) (r1 _ (by omega) (by omega)) (r1 _ (by omega) (by omega)) ((h.i _ (by omega) (by omega)).trans (vsS_lo (by omega) (by omega))) (h5 k hk) (h7 k hk) (hqk k hk) fun hne => by
  rw [hwE] at hne
  exact hst _ (tcN_tt hk) (by unfold tcN; omega)
 have hcw : c ≠ tcN w := fun e => by
  have := (s.run _ ht).2 (.inl e.symm)
  rw [h0] at this; cases this
 have hqf : (getT f4 (tcN w)).q = false := by
  cases hq : (getT f4 (tcN w)).q with
  | false => rfl
  | true =>
   have := (s.run _ ht).2 (.inr hq)
   rw [h0] at this; cases this
 refine ⟨⟨t0 0 (by omega), t0 1 (by omega), t0 2 (by omega), t0 3 (by omega), ?_, t1 0 (by omega), t1 1 (by omega), t1 2 (by omega), t1 3 (by omega), ?_, ?_, ?_, ?_, ?_, trivial⟩, ?_, ?_⟩
 ·refine ent_g (r0 104 (by omega) (by omega)) (r1 105 (by omega) (by omega)) c4 p4 ((h.i 324 (by omega) (by omega)).trans rfl) (fun ρ => ?_) (fun ρ => rfl)
  show γL E ρ [.i .i64 (.ofNat (tcN (wE e))), .i .i64 0] = _
  rw [hwE]; rfl
 ·exact ent_g (r1 109 (by omega) (by omega)) r2 c5 p5 ((h.i 329 (by omega) (by omega)).trans rfl) (fun ρ => rfl) (fun ρ => rfl)
 ·exact ent_g r2 r3 c6 p6 ((h.i 330 (by omega) (by omega)).trans rfl) (fun ρ => rfl) (fun ρ => rfl)
 ·exact ent_g r3 (r4 112 (by omega) (by omega)) c7 p7 ((h.i 331 (by omega) (by omega)).trans rfl) (fun ρ => rfl) (fun ρ => rfl)
 ·exact ent_g (r4 112 (by omega) (by omega)) (r4 113 (by omega) (by omega)) c8 p8 ((h.i 332 (by omega) (by omega)).trans rfl) (fun ρ => rfl) (fun ρ => vsi i400)
 ·refine ent_g (k := 20) (r4 113 (by omega) (by omega)) (r4 114 (by omega) (by omega)) (thr_p ht (s.q.thr _ ht)) (by omega) ((h.i 333 (by omega) (by omega)).trans (vsS_lo (by omega) (by omega))) (fun ρ => ?_) (fun ρ => tupT (tA_ok ?_ (vsi (h9 1 (by omega))) (vsi (h9 2 (by omega))) (by rw [hqf]; rfl) (vsi (h9 4 (by omega))) (vsi (h9 5 (by omega))) (vsi (h9 6 (by omega))) (vsi (h9 7 (by omega))) (vsb (sbq (h9 8 (by omega)))) (vsb (sbq (h9 9 (by omega)))) (vsi (h9 10 (by omega))) (vsi (h9 11 (by omega))) (vsi (h9 12 (by omega))) (vsi (h9 13 (by omega))) h9))
  ·show γL E ρ [.i .i64 (.ofNat (tcN (wE e)))] = _
   rw [hwE]; rfl
  ·rw [s.st ht, h0]; rfl
 ·refine ⟨?_, pS_ok (by omega), pS_ok (by omega), pS_ok (by omega), pS_ok (by omega), trivial⟩
  exact pW_ok ha h.x (by rw [hwE]; exact hw)
 ·refine ⟨f_ne ?_, f_nen rfl, f_nen rfl, f_nen rfl, f_nen rfl, f_nen rfl, f_nen rfl, f_nen rfl, f_nen rfl, trivial⟩
  show E.i 400 ≠ ((tcN (wE e) : Nat) : Int)
  rw [hwE, i400]; omega
theorem stops_any {a : Int} (ha : I64 a) {r : Row} {D : Nat → Int × Int × Int} (hD : RowA r D) {W : World} (hW : W.heap[r.b]? = some (.cells r.cs r.t r.fz)) :
  Calls PP 4 #[.slice (some ⟨r.b, r.off, none⟩) r.len r.cap, .int .i64 a] W fun e w' => e = .returned (.bool true) ∧ RowKit.Below W.heap.size W w' :=
 ends_law Tryz.func4 qcut4 wq4 (fr := frS) (B := 100) (by decide) (ends_s (b := 0) ha) (cx := cxES) (fe := fES) (fun e E h => cxM_ok (hC0 E) h.1 (ps_list h.2.1)) (fun e E h => h.2.2) (fun j hj => Nat.eq_of_beq_eq_true (rng_ok goS_ok j hj)) (fun e bb he => by
  have := rng_ok outS_ok e he
  simp only [Bool.and_eq_true] at this
  match bb with
  | true => exact Nat.eq_of_beq_eq_true this.1
  | false => exact Nat.eq_of_beq_eq_true this.2) (l := [.fs q1 0, .si .i64 (.v 20)]) ⟨show (1 : Nat) < 2 by decide, trivial, trivial⟩ inS_ok hD hW fun E h0 h1 h2 => by
  simp only [γL, V.γ, SE.den, h0, h1, h2, rhoA]
end Go.Ev.X
end
/-
 SchedStops: of no list at all.
-/
set_option linter.unusedSimpArgs false
set_option linter.unusedVariables false
set_option maxRecDepth 100000
noncomputable section
namespace Go.Ev.X
open Go Go.Ev Go.Proofs
variable {E : Env}
def inN (c : CallT) : CallT := asRow 9 q1 (.arr 37 8192 13 (.i .u64 0) abt0) (.oa 37 200 8192 13 .nil) (asRow 9 q1376 (.arr 37 8192 13 (.i .u64 0) abt0) (.oa 37 100 8192 13 .nil) (memoS ab (callAx c)))
theorem inN_ok {c : CallT} (hc : CallOk E PP c) (h1 : WordsIs (E.s 100).cs 8192 f0) (h2 : WordsIs (E.s 200).cs 8192 f0) : CallOk E PP (inN c) :=
 asRow_ok (asRow_ok (msS_ok rfl abt FaOk.nil (call1_ok (lenAll E)) (callAx_ok hc)) rfl (fun ρ L hp h => arr_row abt_u h1 ρ L hp h) (oaNil_bd _ _ _ _)) rfl (fun ρ L hp h => arr_row abt_u h2 ρ L hp h) (oaNil_bd _ _ _ _)
theorem nilS_ok : allB (fun e => Nat.beq (callS (cxES e) 0 (inN (callT (cxES e) 20)) 4 [.snil, .si .i64 (.v 20)] ⟨.h, .h, .e⟩ ⟨fES e, []⟩ (endV (.b true))) 0) (rng 64) = true := by decide +kernel
theorem stops_nil {a : Int} (ha : I64 a) (W : World) : Calls PP 4 #[.slice none 0 0, .int .i64 a] W fun e w' => e = .returned (.bool true) ∧ RowKit.Below W.heap.size W w' := by
 obtain ⟨e, vs, rows, he, hall⟩ := ends_s (b := 0) ha f0 okw0
 obtain ⟨E, hE⟩ : ∃ E : Env, E = ⟨fun i => if i = 20 then a else if i = 21 then 0 else vs i, fun _ => false, fun q => if q = 100 then rowF 8192 f0 else if q = 200 then rowF 8192 f0 else rows q⟩ := ⟨_, rfl⟩
 have h1 : WordsIs (E.s 100).cs 8192 f0 := by rw [hE]; exact rowF_is _ _
 have h2 : WordsIs (E.s 200).cs 8192 f0 := by rw [hE]; exact rowF_is _ _
 have eo := hall E ⟨fun i k1 k2 => by
   rw [hE]
   show (if i = 20 then a else if i = 21 then 0 else vs i) = vs i
   rw [if_neg (by omega), if_neg (by omega)], by rw [hE]; rfl, by rw [hE]; rfl, h1, h2, fun q k1 k2 => by
   rw [hE]
   show (if q = 100 then rowF 8192 f0 else if q = 200 then rowF 8192 f0 else rows q) = rows q
   rw [if_neg (by omega), if_neg (by omega)]⟩
 have hcx : CxOk E PP (tyOf PP) (cxES e) := cxM_ok (hC0 E) eo.1 (ps_list eo.2.1)
 have := val_of_run hcx (inN_ok (callT_run hcx 20) h1 h2) (fa_list (l := fES e) (r := []) eo.2.2 trivial) (Nat.eq_of_beq_eq_true (rng_ok nilS_ok e he)) (l := [.snil, .si .i64 (.v 20)]) ⟨trivial, trivial, trivial⟩ (fun _ => ⟨0, 0⟩) W
 have hargs : (γL E (fun _ => ⟨0, 0⟩) [.snil, .si .i64 (.v 20)]).toArray = #[.slice none 0 0, .int .i64 a] := by rw [hE]; rfl
 rw [hargs] at this
 exact this.mono fun e w' h => by
  obtain ⟨⟨ρ', h1⟩, h2⟩ := h
  exact ⟨h1, h2⟩
end Go.Ev.X
end
