/-
 ReadyPlays: the law.
-/
import Derived.Test.YtgaelfnoffejgaaYE
import Derived.Test.YtgaelfnoffejgaaE7
import Derived.Test.YtgaelfnoffejgaaCLa
import Derived.Test.YtgaelfnoffejgaaYQa
import Derived.Test.YtgaelfnoffejgaaYQb
import Derived.Test.YtgaelfnoffejgaaYQc
import Derived.Test.YtgaelfnoffejgaaYQe
set_option linter.unusedSimpArgs false
set_option linter.unusedVariables false
set_option maxRecDepth 100000
noncomputable section
namespace Go.Ev.X
open Go Go.Ev Go.Proofs
variable {E : Env} {f f' : Nat → Int} {Q : Nat → List Nat} {t : Nat}
structure RowA (r : Row) (D : Nat → Int × Int × Int) : Prop where
 esz : r.esz = 3
 c : ∀ i, i < r.len → r.cs[r.off + i * 3 + 0]? = some (.int .i64 (D i).1) ∧ r.cs[r.off + i * 3 + 1]? = some (.int .i64 (D i).2.1) ∧ r.cs[r.off + i * 3 + 2]? = some (.int .i64 (D i).2.2) ∧ I64 (D i).1 ∧ I64 (D i).2.1 ∧ I64 (D i).2.2
def row3 (h : H) : Bool := hc h (fun _ _ t => ptAll (fun _ o => match o with
 | .row q z N I l => Nat.beq q 1 && Nat.beq z 3 && SE.beq I (.v 12) && vlBeq l l3Y
 | _ => true) (fun p => p) t)
theorem row3_ok {h : H} (hr : row3 h = true) (h2 : E.i 12 = (E.s 1).idx) (hl : (E.s 1).idx < (E.s 1).len) {D : Nat → Int × Int × Int} (hD : RowA (E.s 1) D) (h3 : E.i 13 = (D (E.s 1).idx).1) (h4 : E.i 14 = (D (E.s 1).idx).2.1) (h7 : E.i 15 = (D (E.s 1).idx).2.2) : ∀ p o, h.t.get p = some o → RowEl E o := by
 intro p o hp
 unfold row3 at hr
 rw [hc_eq] at hr
 have := ptAll_ok _ _ p o hr hp
 cases o with
 | row q z N I l =>
  simp only [Bool.and_eq_true, Nat.beq_eq] at this
  obtain ⟨⟨⟨rfl, rfl⟩, hI⟩, hl'⟩ := this
  have hI := SE.beq_eq hI
  have hl' := vlBeq_ok hl'
  subst hI; subst hl'
  obtain ⟨c0, c1, c2, _⟩ := hD.c _ hl
  intro _
  refine ⟨h2, hl, rfl, fun ρ i hi => ?_⟩
  have : i = 0 ∨ i = 1 ∨ i = 2 := by
   have : i < 3 := hi
   omega
  rcases this with rfl | rfl | rfl
  ·rw [c0, ← h3]; rfl
  ·rw [c1, ← h4]; rfl
  ·rw [c2, ← h7]; rfl
 | _ => trivial
theorem hY_rows : row3 (hY 3 1) = true ∧ rowU (hY 3 0) = true ∧ rowU (hY 0 0) = true := by decide +kernel
theorem goY_ok {c d : Nat} (h1 : 1 ≤ c) (h2 : c ≤ 13) (hd : d ≤ 10) : goY c d = 0 := by
 have go : ∀ {d : Nat}, allB (fun c => Nat.beq (goY (c + 1) d) 0) (rng 13) = true → goY c d = 0 := fun {d} hr => by
  have := Nat.eq_of_beq_eq_true (rng_ok hr (c - 1) (by omega))
  rw [show c - 1 + 1 = c from by omega] at this
  exact this
 match d, hd with
 | 0, _ => exact go goY0
 | 1, _ => exact go goY1
 | 2, _ => exact go goY2
 | 3, _ => exact go goY3
 | 4, _ => exact go goY4
 | 5, _ => exact go goY5
 | 6, _ => exact go goY6
 | 7, _ => exact go goY7
 | 8, _ => exact go goY8
 | 9, _ => exact go goY9
 | 10, _ => exact go goY10
structure RndY (c d : Nat) (E : Env) : Prop where
 c1 : 1 ≤ c
 c2 : c ≤ 13
 hd : d ≤ 10
 p : EntsOk PP cP E 100 (acP c ++ tlP (bP c) d)
 r : EntsOk PP cR E 200 (acR c ++ tlR (bR c) d)
 ps : PsOk PP E (psY c)
 fs : FsOk E (fsY c d)
 w : ∃ f', OkQ f' ∧ WordsIs (E.s (rpY c d)).cs 2048 f' ∧ WordsIs (E.s (rrY c d)).cs 2048 f'
def vsY (w n p tv hv : Int) (kp kh k6 k7 k8 : Nat) (L : List Nat) (f f' : Nat → Int) (i : Nat) : Int :=
 if i = 13 then w else if i = 14 then n else if i = 15 then p else if i = 300 then tv else if i = 302 then hv else if i = 303 then lowI p else if i = 310 then kp else if i = 311 then kh else if i = 316 then k6 else if i = 317 then k7 else if i = 318 then k8
 else if i = 450 then (L.getD 0 0 : Nat)
 else if i < 1300 then fldT (getT f' (L.getD ((i - 800) / 40) 0)) (regs f' (L.getD ((i - 800) / 40) 0)) ((i - 800) % 40)
 else fldT (getT f tv.toNat) (regs f tv.toNat) (i - 1300)
theorem vsY_8 {w n p tv hv : Int} {kp kh k6 k7 k8 : Nat} {L : List Nat} {i j : Nat} (hi : i < 9) (hj : j < 30) : vsY w n p tv hv kp kh k6 k7 k8 L f f' (800 + 40 * i + j) = fldT (getT f' (L.getD i 0)) (regs f' (L.getD i 0)) j := by
 unfold vsY
 rw [if_neg (by omega), if_neg (by omega), if_neg (by omega), if_neg (by omega), if_neg (by omega), if_neg (by omega), if_neg (by omega), if_neg (by omega), if_neg (by omega), if_neg (by omega), if_neg (by omega), if_neg (by omega), if_pos (by omega), show (800 + 40 * i + j - 800) / 40 = i from by omega, show (800 + 40 * i + j - 800) % 40 = j from by omega]
theorem vsY_13 {w n p tv hv : Int} {kp kh k6 k7 k8 : Nat} {L : List Nat} {j : Nat} (hj : j < 30) : vsY w n p tv hv kp kh k6 k7 k8 L f f' (1300 + j) = fldT (getT f tv.toNat) (regs f tv.toNat) j := by
 unfold vsY
 rw [if_neg (by omega), if_neg (by omega), if_neg (by omega), if_neg (by omega), if_neg (by omega), if_neg (by omega), if_neg (by omega), if_neg (by omega), if_neg (by omega), if_neg (by omega), if_neg (by omega), if_neg (by omega), if_neg (by omega), show 1300 + j - 1300 = j from by omega]
def rowsY (g f' : Nat → Int) (q : Nat) : Row := if q = 201 then rowF 2048 g else rowF 2048 f'
theorem steps_le {a b : SE} {k m : Nat} (hb : b.den E = wrapF .i64 (a.den E + (k : Int))) (hk : k ≤ m) (hm : m ≤ 1000) : (SB.cmp .leq (.op .sub .i64 b a) (.lit (.ofNat m))).den E = true := by
 refine f_le ?_
 show wrapF .i64 (b.den E - a.den E) ≤ (m : Int)
 rw [hb, wrapF_eq, wrapF_eq, IntKind.wrap_i64, IntKind.wrap_i64]
 omega
theorem steps_le0 {a : SE} {m : Nat} : (SB.cmp .leq (.op .sub .i64 a a) (.lit (.ofNat m))).den E = true := by
 refine f_le ?_
 show wrapF .i64 (a.den E - a.den E) ≤ (m : Int)
 rw [wrapF_eq, IntKind.wrap_i64]
 omega
theorem rnd_ex (hf : OkQ f) {w n p : Int} (hn : I64 n) (hp : I64 p) : ∃ (c d : Nat) (vs : Nat → Int) (rows : Nat → Row), vs 13 = w ∧ vs 14 = n ∧ vs 15 = p ∧
  ∀ E : Env, (∀ i, 13 ≤ i → i ≤ 15 → E.i i = vs i) → (∀ i, 300 ≤ i → i < 100000 → E.i i = vs i) → WordsIs (E.s 100).cs 2048 f → WordsIs (E.s 200).cs 2048 f → (∀ q, 101 ≤ q → q < 200 → E.s q = rows q) → (∀ q, 201 ≤ q → q < 300 → E.s q = rows q) → RndY c d E := by
 obtain ⟨c, kp, k6, k7, tv, g, f', c1, c2, hf', hkp, b0, r0, r1, hb, hr, hcase⟩ := act_ex (w := w) hf hn hp
 obtain ⟨d, kh, k8, hv, L, hd, hkh, htail⟩ := tail_ex hf' p
 refine ⟨c, d, vsY w n p tv hv kp kh k6 k7 k8 L f f', rowsY g f', rfl, rfl, rfl, fun E e1 e3 e100 e200 eP eR => ?_⟩
 have rP : ∀ q, 101 ≤ q → q < 200 → WordsIs (E.s q).cs 2048 f' := fun q h1 h2 => by
  rw [eP q h1 h2]; unfold rowsY
  rw [if_neg (by omega)]; exact rowF_is _ _
 have rR : ∀ q, 202 ≤ q → q < 300 → WordsIs (E.s q).cs 2048 f' := fun q h1 h2 => by
  rw [eR q (by omega) h2]; unfold rowsY
  rw [if_neg (by omega)]; exact rowF_is _ _
 have r201 : WordsIs (E.s 201).cs 2048 g := by
  rw [eR 201 (by omega) (by omega)]; unfold rowsY
  rw [if_pos rfl]; exact rowF_is _ _
 have rPb : ∀ q, bP c ≤ q → q < 200 → WordsIs (E.s q).cs 2048 f' := fun q h1 h2 => by
  by_cases h : q = 100
  ·subst h
   rw [b0 (by omega)]; exact e100
  ·exact rP q (by omega) h2
 have rRb : ∀ q, bR c ≤ q → q < 300 → WordsIs (E.s q).cs 2048 f' := fun q h1 h2 => by
  by_cases h : q = 200
  ·subst h
   rw [r0 (by omega)]; exact e200
  ·by_cases h' : q = 201
   ·subst h'
    rw [← r1 (by omega)]; exact r201
   ·exact rR q (by omega) h2
 have ev : ∀ i, 300 ≤ i → i < 100000 → E.i i = vsY w n p tv hv kp kh k6 k7 k8 L f f' i := e3
 have hE := hcase E ⟨(e1 13 (by omega) (by omega)).trans rfl, (e1 14 (by omega) (by omega)).trans rfl, (e1 15 (by omega) (by omega)).trans rfl, (ev 300 (by omega) (by omega)).trans rfl, (ev 303 (by omega) (by omega)).trans rfl, (ev 310 (by omega) (by omega)).trans rfl, (ev 316 (by omega) (by omega)).trans rfl, (ev 317 (by omega) (by omega)).trans rfl, fun j hj => (ev _ (by omega) (by omega)).trans (vsY_13 hj), e100, rP 101 (by omega) (by omega), e200, r201, rR 202 (by omega) (by omega)⟩
 obtain ⟨g1, g2, g3, g4, g5⟩ := hE
 obtain ⟨t1, t2, t3⟩ := htail E (bP c) (bR c) ⟨(e1 15 (by omega) (by omega)).trans rfl, (ev 302 (by omega) (by omega)).trans rfl, (ev 311 (by omega) (by omega)).trans rfl, (ev 318 (by omega) (by omega)).trans rfl, (ev 450 (by omega) (by omega)).trans rfl, fun i j hi hj => (ev _ (by omega) (by omega)).trans (vsY_8 hi hj)⟩ (fun q h1 h2 => rPb q h1 (by omega)) (fun q h1 h2 => rRb q h1 (by omega))
 have i310 : E.i 310 = (kp : Nat) := (ev 310 (by omega) (by omega)).trans rfl
 have i311 : E.i 311 = (kh : Nat) := (ev 311 (by omega) (by omega)).trans rfl
 have hl : ∀ b, b ≤ lastY b d ∧ lastY b d ≤ b + 11 := fun b => by
  unfold lastY
  by_cases h : d ≤ 8
  ·rw [show Nat.ble d 8 = true by rw [Nat.ble_eq]; exact h]
   show b ≤ b + (3 + d) ∧ b + (3 + d) ≤ b + 11
   omega
  ·rw [show Nat.ble d 8 = false by rw [Bool.eq_false_iff, ne_eq, Nat.ble_eq]; exact h]
   show b ≤ b + 1 ∧ b + 1 ≤ b + 11
   omega
 refine ⟨c1, c2, hd, ents_app g1 (by rw [show 100 + (acP c).length = bP c from rfl]; exact t1), ents_app g2 (by rw [show 200 + (acR c).length = bR c from rfl]; exact t2), g3, fs_app g4 (fs_app g5 (fs_app t3 ⟨?_, ?_, trivial⟩)), f', hf', rPb _ (hl _).1 (by have := (hl (bP c)).2; unfold rpY; omega), rRb _ (hl _).1 (by have := (hl (bR c)).2; unfold rrY; omega)⟩
 ·unfold stA actsY
  rcases hb with h | h
  ·rw [show Nat.beq (bP c) 101 = false by rw [h]; rfl]
   exact steps_le0 (m := 200)
  ·rw [show Nat.beq (bP c) 101 = true by rw [h]; rfl]
   exact steps_le (k := kp) (m := 200) (by show wrapF .i64 (E.i 5 + E.i 310) = wrapF .i64 (E.i 5 + _); rw [i310]) (by omega) (by omega)
 ·refine steps_le (k := kh) (m := 3) ?_ hkh (by omega)
  show wrapF .i64 ((stA c).den E + E.i 311) = _
  rw [i311]
structure InvY (z : Nat) (B : Int) (m j : Nat) (E : Env) : Prop where
 r : z = 3 → E.i 11 = (E.s 1).len ∧ ∃ D, RowA (E.s 1) D
 b : z = 3 → B = E.i 11
 i0 : 0 ≤ E.i 12
 m : (m : Int) + E.i 12 = B
 c : (j = 1 ∧ z = 3 ∧ E.i 12 < E.i 11 ∧ ∃ c d, RndY c d E) ∨ (j = 0 ∧ (z = 3 → ¬ E.i 12 < E.i 11) ∧ (z = 0 → E.i 12 = 0))
theorem leadY {z q q' m : Nat} {B x : Int} (hz : z = 0 ∨ z = 3) (hf : OkQ f) {σ : Sg} (hq : WordsIs (E.s q).cs 2048 f) (hq' : WordsIs (E.s q').cs 2048 f) (g11 : σ 11 = some (.v 11)) {s12 : SE} (g12 : σ 12 = some s12) (hx : s12.den E = x) (gp : σ 100100 = some (.lit (.ofNat q))) (gr : σ 100200 = some (.lit (.ofNat q')))
  (n13 : ∀ i, 13 ≤ i → i ≤ 15 → σ i = none) (nf : ∀ i, 300 ≤ i → i < 100000 → σ i = none) (np : ∀ q, 101 ≤ q → q < 200 → σ (100000 + q) = none) (nr : ∀ q, 201 ≤ q → q < 300 → σ (100000 + q) = none) (hr : z = 3 → E.i 11 = (E.s 1).len ∧ ∃ D, RowA (E.s 1) D) (h0 : 0 ≤ x) (hB : z = 3 → B = E.i 11) (hxB : x ≤ B) (h00 : z = 0 → x = 0) (hm : B - x < m) :
  Leads (stY z) (InvY z B) E (nxY z σ) m := by
 intro _
 have key : ∀ (vs : Nat → Int) (rows : Nat → Row), ∃ E', TrE σ E E' ∧ E'.i 11 = E.i 11 ∧ E'.i 12 = x ∧ E'.s 1 = { E.s 1 with idx := x.toNat } ∧ WordsIs (E'.s 100).cs 2048 f ∧ WordsIs (E'.s 200).cs 2048 f ∧ (∀ i, 13 ≤ i → i ≤ 15 → E'.i i = vs i) ∧ (∀ i, 300 ≤ i → i < 100000 → E'.i i = vs i) ∧ (∀ q, 101 ≤ q → q < 200 → E'.s q = rows q) ∧ (∀ q, 201 ≤ q → q < 300 → E'.s q = rows q) := by
  intro vs rows
  have t := nxA_tr σ E x vs rows
  refine ⟨nxA σ E x vs rows, t, t.i 11 _ g11, (t.i 12 _ g12).trans hx, rfl, ?_, ?_, fun i h1 h2 => by simp [nxA, n13 i h1 h2], fun i h1 h2 => by simp [nxA, nf i h1 h2], fun q h1 h2 => ?_, fun q h1 h2 => ?_⟩
  ·rw [nxA_s]
   unfold nxS
   rw [if_neg (by omega), show 100000 + 100 = 100100 from rfl, gp]; exact hq
  ·rw [nxA_s]
   unfold nxS
   rw [if_neg (by omega), show 100000 + 200 = 100200 from rfl, gr]; exact hq'
  ·rw [nxA_s]
   unfold nxS
   rw [if_neg (by omega), np q h1 h2]
  ·rw [nxA_s]
   unfold nxS
   rw [if_neg (by omega), nr q h1 h2]
 by_cases hk : z = 3 ∧ x < B
 ·obtain ⟨rfl, hlt⟩ := hk
  obtain ⟨hlen, D, hD⟩ := hr rfl
  have hB := hB rfl
  have hxl : x.toNat < (E.s 1).len := by omega
  obtain ⟨d0, d1, d2, i0, i1, i2⟩ := hD.c x.toNat hxl
  obtain ⟨c, d, vs, rows, v13, v14, v15, hall⟩ := rnd_ex (w := (D x.toNat).1) hf i1 i2
  obtain ⟨E', t, e11, e12, es1, e100, e200, e13, ev, er, er'⟩ := key vs rows
  have hR := hall E' e13 ev e100 e200 er er'
  have hD' : RowA (E'.s 1) D := by rw [es1]; exact ⟨hD.esz, hD.c⟩
  refine ⟨1, σ, (B - x).toNat, E', (by show (1, σ) ∈ [(0, σ), (1, σ)]; simp), by omega, ⟨fun _ => ⟨by rw [e11, es1]; exact hlen, D, hD'⟩, fun _ => by rw [e11]; exact hB, by omega, by omega, .inl ⟨rfl, rfl, by omega, c, d, hR⟩⟩, t, ?_⟩
  refine row3_ok hY_rows.1 (by rw [e12, es1]; show x = ((x.toNat : Nat) : Int); omega) (by rw [es1]; exact hxl) hD' ?_ ?_ ?_
  ·rw [e13 13 (by omega) (by omega), v13, es1]
  ·rw [e13 14 (by omega) (by omega), v14, es1]
  ·rw [e13 15 (by omega) (by omega), v15, es1]
 ·obtain ⟨E', t, e11, e12, es1, e100, e200, e13, ev, er, er'⟩ := key (fun _ => 0) (fun _ => rowF 2048 f)
  refine ⟨0, σ, (B - x).toNat, E', ?_, by omega, ⟨fun h => ?_, fun h => by rw [e11]; exact hB h, by omega, by omega, .inr ⟨rfl, fun h => ?_, fun h => by rw [e12]; exact h00 h⟩⟩, t, ?_⟩
  ·rcases hz with rfl | rfl
   ·show (0, σ) ∈ [(0, σ)]; simp
   ·show (0, σ) ∈ [(0, σ), (1, σ)]; simp
  ·obtain ⟨hlen, D, hD⟩ := hr h
   exact ⟨by rw [e11, es1]; exact hlen, D, by rw [es1]; exact ⟨hD.esz, hD.c⟩⟩
  ·have := hB h
   rw [e11, e12]; omega
  ·rcases hz with rfl | rfl
   ·exact rowU_ok hY_rows.2.2
   ·exact rowU_ok hY_rows.2.1
theorem sgY_cut {c d i : Nat} (a1 : i ≠ 11) (a2 : i ≠ 12) (a3 : i ≠ 5) (a4 : i ≠ 6) (a5 : i ≠ 100100) (a6 : i ≠ 100200) : sgY c d i = none ∧ sgY0 i = none := by
 constructor <;> refine sgL_cut fun p hp => ?_ <;> simp only [List.mem_cons, List.not_mem_nil, or_false] at hp <;> rcases hp with rfl | rfl | rfl | rfl | rfl | rfl <;> assumption
theorem cxY_ok {c d : Nat} (h : RndY c d E) : CxOk E PP (tyOf PP) (cxY c d) := by
 obtain ⟨f', _, h4, h5⟩ := h.w
 refine cxW_ok (cxI_ok (callT_run (hC0 E) 20) (cxI_ok (callT_run (hC0 E) 20) (cxM_ok (es := []) (hC0 E) trivial (ps_list h.ps)) h.p) h.r) (cloneK_ok (by omega) Try.call44 (fun b off n c zs w hz hb hc => clone_c b off n c zs w hz hb hc) fun q hq => ⟨f', ?_⟩) (alikeK_ok (by omega) Try.call20 @same20 fun q q' hq => ⟨f', ?_⟩)
 ·have : q = rpY c d := by simpa using hq
  rw [this]; exact h4
 ·have : q = rpY c d ∧ q' = rrY c d := by simpa using hq
  rw [this.1, this.2]; exact ⟨h4, h5⟩
theorem plays_any {b : Bool} {z : Nat} (hz : z = 0 ∨ z = 3) {r0 r1 : Row} {D0 : Nat → Int} {D1 : Nat → Int × Int × Int} (h0 : b = false → RowI r0 D0) (h1 : z = 3 → RowA r1 D1) {W : World} (w0 : b = false → W.heap[r0.b]? = some (.cells r0.cs r0.t r0.fz)) (w1 : z = 3 → W.heap[r1.b]? = some (.cells r1.cs r1.t r1.fz)) :
  Calls PP 6 #[v0 b r0, v0 (Nat.beq z 0) r1] W fun e w' => e = .returned (.bool true) ∧ RowKit.Below W.heap.size W w' := by
 obtain ⟨E, hE⟩ : ∃ E : Env, E = ⟨fun i => if i = 1 then r0.len else if i = 11 then r1.len else if i = 100100 then 100 else if i = 100200 then 200 else 160, fun _ => false, fun q => if q = 0 then r0 else if q = 1 then r1 else if q = 100 ∨ q = 200 then rowF 2048 (madeW b r0 D0 8) else rowF 2048 (fun _ => 0)⟩ := ⟨_, rfl⟩
 have s0 : E.s 0 = r0 := by rw [hE]; rfl
 have s1 : E.s 1 = r1 := by rw [hE]; rfl
 have i1 : E.i 1 = r0.len := by rw [hE]; rfl
 have i11 : E.i 11 = r1.len := by rw [hE]; rfl
 have s100 : E.s 100 = rowF 2048 (madeW b r0 D0 8) := by rw [hE]; rfl
 have s200 : E.s 200 = rowF 2048 (madeW b r0 D0 8) := by rw [hE]; rfl
 have hME : MadeE b D0 E := ⟨by rw [hE]; rfl, by rw [hE]; rfl, by rw [s100, s0]; rfl, by rw [s0, hE]; rfl, by rw [hE]; rfl, by rw [hE]; rfl, by rw [hE]; rfl, by rw [hE]; rfl, by rw [s0]; exact h0⟩
 have hsat : Sat E (rho2 r0 r1) (hM0 false b z) W := by
  have := hM0_sat (E := E) (b := b) (z := z) (W := W) (by omega) (by rw [s0]; exact fun hb => ⟨w0 hb, (h0 hb).esz, i1⟩) (by rw [s1]; exact fun h => ⟨w1 (by omega), by have := (h1 (by omega)).esz; omega, i11⟩)
  rw [s0, s1] at this; exact this
 have hbd : bdL 3 [a0 b, a1 z] := by
  refine ⟨?_, ?_, trivial⟩
  ·cases b with
   | true => exact trivial
   | false => exact (by show 1 < 3; omega)
  ·rcases hz with rfl | rfl
   ·exact trivial
   ·exact (by show 2 < 3; omega)
 have hargs : (γL E (rho2 r0 r1) [a0 b, a1 z]).toArray = #[v0 b r0, v0 (Nat.beq z 0) r1] := by
  have e0 : (a0 b).γ E (rho2 r0 r1) = v0 b r0 := by
   cases b with
   | true => rfl
   | false => show Value.slice _ _ _ = Value.slice _ _ _; rw [s0]
  have e1 : (a1 z).γ E (rho2 r0 r1) = v0 (Nat.beq z 0) r1 := by
   rcases hz with rfl | rfl
   ·rfl
   ·show Value.slice _ _ _ = Value.slice _ _ _; rw [s1]
  simp only [γL, e0, e1]
 rw [← hargs]
 by_cases hb0 : b = false ∧ 2147483647 < r0.len
 ·obtain ⟨rfl, hb0⟩ := hb0
  refine big_run (fs := fL0) ?_ ⟨f_gt (show (2147483647 : Int) < E.i 1 by rw [i1]; omega), trivial⟩ hbd hsat
  rcases hz with rfl | rfl
  ·exact bigY_ok.1.1
  ·exact bigY_ok.1.2
 by_cases hb1 : z = 3 ∧ 2147483647 < r1.len
 ·obtain ⟨rfl, hb1⟩ := hb1
  refine big_run (fs := fL1 b) ?_ ?_ hbd hsat
  ·cases b with
   | false => exact bigY_ok.2.1
   | true => exact bigY_ok.2.2
  ·cases b with
   | false => exact ⟨f_gtn (show E.i 1 ≤ 2147483647 by rw [i1]; have : ¬ 2147483647 < r0.len := fun h => hb0 ⟨rfl, h⟩; omega), f_gt (show (2147483647 : Int) < E.i 11 by rw [i11]; omega), trivial⟩
   | true => exact ⟨f_gt (show (2147483647 : Int) < E.i 11 by rw [i11]; omega), trivial⟩
 have hzo : zOk false b z = true := by
  have := allB_ok z_ok b (b_mem b)
  simp only [Bool.and_eq_true] at this
  rcases hz with rfl | rfl
  ·exact this.1
  ·exact this.2.2
 have hf0 : OkQ (madeW b r0 D0 8) := ⟨_, (made_q _ (prD_lt _ _)).1⟩
 have hfI : FsOk E (fI b z) := by
  refine fs_app ?_ ?_
  ·cases b with
   | true => exact trivial
   | false => exact ⟨f_gtn (show E.i 1 ≤ 2147483647 by rw [i1]; have : ¬ 2147483647 < r0.len := fun h => hb0 ⟨rfl, h⟩; omega), trivial⟩
  ·rcases hz with rfl | rfl
   ·exact trivial
   ·exact ⟨f_gtn (show E.i 11 ≤ 2147483647 by rw [i11]; have : ¬ 2147483647 < r1.len := fun h => hb1 ⟨rfl, h⟩; omega), trivial⟩
 obtain ⟨B, hBd⟩ : ∃ B : Int, B = if z = 3 then (r1.len : Int) else 0 := ⟨_, rfl⟩
 have hB1 : z = 3 → B = E.i 11 := fun h => by rw [hBd, if_pos h, i11]
 have hB0 : 0 ≤ B := by rw [hBd]; split <;> omega
 have hBs : B ≤ 2147483647 := by
  rw [hBd]; split
  ·rename_i h
   have : ¬ 2147483647 < r1.len := fun h' => hb1 ⟨h, h'⟩
   omega
  ·omega
 have hin := allB_ok inY_ok b (b_mem b)
 simp only [Bool.and_eq_true] at hin
 refine cutG_law tyOk_tyOf mixedX Try.func6 qcp w6 (st := stY z) (Inv := InvY z B) (fun m j E' hI => ?_) (E := E) (g0 := ⟨inYc b z, 6, 20000⟩) (callAx_ok (made_ok hzo hME (callT_run (hC0 E) 20))) (fa := ⟨fI b z, []⟩) (fa_list (l := fI b z) hfI trivial) (nx := nxY z sgY0) (B.toNat + 1) ?_ ?_ hsat hbd hM0_new
 ·rcases hI.c with ⟨rfl, rfl, hlt, c, d, hR⟩ | ⟨rfl, e3, e4⟩
  ·obtain ⟨hlen, D, hD⟩ := hI.r rfl
   refine ⟨gY c d, ⟨fY c d, []⟩, nxY 3 (sgY c d), callT_run (cxY_ok hR) 20, fa_list (l := fY c d) ⟨f_lt hlt, hR.fs⟩ trivial, goY_ok hR.c1 hR.c2 hR.hd, ?_⟩
   have hm := hI.m
   have h0 := hI.i0
   have hb := hI.b rfl
   obtain ⟨f', hf', hw, hw'⟩ := hR.w
   have cut := fun {i : Nat} a1 a2 a3 a4 a5 a6 => (sgY_cut (c := c) (d := d) (i := i) a1 a2 a3 a4 a5 a6).1
   exact leadY (E := E') (q := rpY c d) (q' := rrY c d) (m := m) (B := B) (x := E'.i 12 + 1) (.inr rfl) hf' (σ := sgY c d) hw hw' rfl (s12 := .op .add .i64 (.v 12) (.lit 1)) rfl (by
    show wrapF .i64 (E'.i 12 + 1) = _
    rw [wrapF_eq, IntKind.wrap_i64]; omega) rfl rfl (fun i h1 h2 => cut (by omega) (by omega) (by omega) (by omega) (by omega) (by omega)) (fun i h1 h2 => cut (by omega) (by omega) (by omega) (by omega) (by omega) (by omega)) (fun q h1 h2 => cut (by omega) (by omega) (by omega) (by omega) (by omega) (by omega)) (fun q h1 h2 => cut (by omega) (by omega) (by omega) (by omega) (by omega) (by omega)) (fun _ => ⟨hlen, D, hD⟩) (by omega) hI.b (by omega) (fun h => by omega) (by omega)
  ·refine ⟨⟨callT cx0 20, 6, 20000⟩, ⟨fE z, []⟩, [], callT_run (hC0 E') 20, fa_list (l := fE z) ⟨?_, trivial⟩ trivial, ?_, fun h => absurd rfl h⟩
   ·rcases hz with rfl | rfl
    ·exact f_ltn (show 0 ≤ E'.i 12 from hI.i0)
    ·exact f_ltn (show E'.i 11 ≤ E'.i 12 by have := e3 rfl; omega)
   ·rcases hz with rfl | rfl
    ·exact outY_ok.1
    ·exact outY_ok.2
 ·have cut := fun {i : Nat} a1 a2 a3 a4 a5 a6 => (sgY_cut (c := 1) (d := 0) (i := i) a1 a2 a3 a4 a5 a6).2
  exact leadY (E := E) (z := z) (q := 100) (q' := 200) (m := B.toNat + 1) (B := B) (x := 0) hz hf0 (σ := sgY0) (by rw [s100]; exact rowF_is _ _) (by rw [s200]; exact rowF_is _ _) rfl (s12 := .lit 0) rfl rfl rfl rfl (fun i h1 h2 => cut (by omega) (by omega) (by omega) (by omega) (by omega) (by omega)) (fun i h1 h2 => cut (by omega) (by omega) (by omega) (by omega) (by omega) (by omega)) (fun q h1 h2 => cut (by omega) (by omega) (by omega) (by omega) (by omega) (by omega)) (fun q h1 h2 => cut (by omega) (by omega) (by omega) (by omega) (by omega) (by omega)) (fun h => ⟨by rw [i11, s1], D1, by rw [s1]; exact h1 h⟩) (Int.le_refl 0) hB1 hB0 (fun _ => rfl) (by omega)
 ·rcases hz with rfl | rfl
  ·exact Nat.eq_of_beq_eq_true hin.1
  ·exact Nat.eq_of_beq_eq_true hin.2
end Go.Ev.X
end
