/-
 ReadyEnds: the law.
-/
import Derived.Test.YtgaelfnoffejgaaVE
import Derived.Test.YtgaelfnoffejgaaVQ00
import Derived.Test.YtgaelfnoffejgaaVQ02
import Derived.Test.YtgaelfnoffejgaaVQ10
import Derived.Test.YtgaelfnoffejgaaVQ12
import Derived.Test.YtgaelfnoffejgaaVQ20
import Derived.Test.YtgaelfnoffejgaaVQ22
import Derived.Test.YtgaelfnoffejgaaVQ30
import Derived.Test.YtgaelfnoffejgaaVQ32
set_option linter.unusedSimpArgs false
set_option linter.unusedVariables false
set_option maxRecDepth 100000
noncomputable section
namespace Go.Ev.X
open Go Go.Ev Go.Proofs
variable {E : Env} {f f' : Nat → Int} {t : Nat}
theorem outV_ok {z a p n e : Nat} (hz : z = 0 ∨ z = 2) (ha : a < 4) (hc : CaseOk p n e) : outV z a p n e = 0 := by
 have h : outA a z = true := by
  rcases hz with rfl | rfl
  ·match a, ha with
   | 0, _ => exact outA00
   | 1, _ => exact outA10
   | 2, _ => exact outA20
   | 3, _ => exact outA30
  ·match a, ha with
   | 0, _ => exact outA02
   | 1, _ => exact outA12
   | 2, _ => exact outA22
   | 3, _ => exact outA32
 unfold outA at h
 simp only [Bool.and_eq_true] at h
 obtain ⟨⟨⟨h1, h2⟩, h3⟩, h4⟩ := h
 rcases hc with ⟨rfl | rfl, rfl, rfl⟩ | ⟨rfl, hn, he⟩ | ⟨rfl, rfl, rfl⟩
 ·exact Nat.eq_of_beq_eq_true h1
 ·exact Nat.eq_of_beq_eq_true h2
 ·exact Nat.eq_of_beq_eq_true (rng_ok (rng_ok h4 n hn) e he)
 ·exact Nat.eq_of_beq_eq_true h3
structure RowV (r : Row) (D : Nat → Int × Int) : Prop where
 esz : r.esz = 2
 c : ∀ i, i < r.len → r.cs[r.off + i * 2 + 0]? = some (.int .i64 (D i).1) ∧ r.cs[r.off + i * 2 + 1]? = some (.int .u64 (D i).2) ∧ I64 (D i).1 ∧ W64 (D i).2
def row2 (h : H) : Bool := hc h (fun _ _ t => ptAll (fun _ o => match o with
 | .row q z N I l => Nat.beq q 1 && Nat.beq z 2 && SE.beq I (.v 12) && vlBeq l [.si .i64 (.v 13), .si .u64 (.v 14)]
 | _ => true) (fun p => p) t)
theorem row2_ok {h : H} (hr : row2 h = true) (h2 : E.i 12 = (E.s 1).idx) (hl : (E.s 1).idx < (E.s 1).len) {D : Nat → Int × Int} (hD : RowV (E.s 1) D) (h3 : E.i 13 = (D (E.s 1).idx).1) (h4 : E.i 14 = (D (E.s 1).idx).2) : ∀ p o, h.t.get p = some o → RowEl E o := by
 intro p o hp
 unfold row2 at hr
 rw [hc_eq] at hr
 have := ptAll_ok _ _ p o hr hp
 cases o with
 | row q z N I l =>
  simp only [Bool.and_eq_true, Nat.beq_eq] at this
  obtain ⟨⟨⟨rfl, rfl⟩, hI⟩, hl'⟩ := this
  have hI := SE.beq_eq hI
  have hl' := vlBeq_ok hl'
  subst hI; subst hl'
  obtain ⟨c0, c1, _⟩ := hD.c _ hl
  intro _
  refine ⟨h2, hl, rfl, fun ρ i hi => ?_⟩
  have : i = 0 ∨ i = 1 := by
   have : i < 2 := hi
   omega
  rcases this with rfl | rfl
  ·rw [c0, ← h3]; rfl
  ·rw [c1, ← h4]; rfl
 | _ => trivial
theorem hV_rows : row2 (hV 2 1) = true ∧ rowU (hV 2 0) = true ∧ rowU (hV 0 0) = true := by decide +kernel
def RndV (E : Env) : Prop := ∃ f, WA f ∧ WordsIs (E.s 100).cs 2048 f ∧ WordsIs (E.s 101).cs 2048 (ldF2 f (E.i 13) (E.i 14)) ∧ I64 (E.i 13) ∧ W64 (E.i 14) ∧ E.i 390 = ldR (E.i 13)
def EndV (E : Env) : Prop := ∃ ca cp n e, ca < 4 ∧ CaseOk cp n e ∧ EntsOk PP cP E 100 (entS 100 (chV ca cp n e)) ∧ FsOk E (fsV ca cp n e)
structure InvV (z : Nat) (a p B : Int) (m j : Nat) (E : Env) : Prop where
 i20 : E.i 20 = a
 i21 : E.i 21 = p
 r : z = 2 → E.i 11 = (E.s 1).len ∧ ∃ D, RowV (E.s 1) D
 b : z = 2 → B = E.i 11
 i0 : 0 ≤ E.i 12
 m : (m : Int) + E.i 12 = B
 c : (j = 1 ∧ z = 2 ∧ E.i 12 < E.i 11 ∧ RndV E) ∨ (j = 0 ∧ (z = 2 → ¬ E.i 12 < E.i 11) ∧ (z = 0 → E.i 12 = 0) ∧ EndV E)
theorem leadV {z q m : Nat} {a p B x : Int} (hz : z = 0 ∨ z = 2) (ha : I64 a) (hp : I64 p) (hf : WA f) {σ : Sg} (hq : WordsIs (E.s q).cs 2048 f) (g11 : σ 11 = some (.v 11)) {s12 : SE} (g12 : σ 12 = some s12) (hx : s12.den E = x) (g20 : σ 20 = some (.v 20)) (h20 : E.i 20 = a) (g21 : σ 21 = some (.v 21)) (h21 : E.i 21 = p) (gp : σ 100100 = some (.lit (.ofNat q)))
  (n13 : σ 13 = none ∧ σ 14 = none) (nf : ∀ i, 300 ≤ i → i < 100000 → σ i = none) (np : ∀ q, 101 ≤ q → q < 200 → σ (100000 + q) = none) (hr : z = 2 → E.i 11 = (E.s 1).len ∧ ∃ D, RowV (E.s 1) D) (h0 : 0 ≤ x) (hB : z = 2 → B = E.i 11) (hxB : x ≤ B) (h00 : z = 0 → x = 0) (hm : B - x < m) :
  Leads (stV z) (InvV z a p B) E (nxV z σ) m := by
 intro _
 have key : ∀ (vs : Nat → Int) (rows : Nat → Row), ∃ E', E' = nxA σ E x vs rows ∧ TrE σ E E' ∧ E'.i 11 = E.i 11 ∧ E'.i 12 = x ∧ E'.i 20 = a ∧ E'.i 21 = p ∧ E'.s 1 = { E.s 1 with idx := x.toNat } ∧ WordsIs (E'.s 100).cs 2048 f ∧ E'.i 13 = vs 13 ∧ E'.i 14 = vs 14 ∧ (∀ i, 300 ≤ i → i < 100000 → E'.i i = vs i) ∧ (∀ q, 101 ≤ q → q < 200 → E'.s q = rows q) := by
  intro vs rows
  have t := nxA_tr σ E x vs rows
  refine ⟨nxA σ E x vs rows, rfl, t, t.i 11 _ g11, (t.i 12 _ g12).trans hx, (t.i 20 _ g20).trans h20, (t.i 21 _ g21).trans h21, rfl, ?_, by simp [nxA, n13.1], by simp [nxA, n13.2], fun i h1 h2 => by simp [nxA, nf i h1 h2], fun q h1 h2 => ?_⟩
  ·rw [nxA_s]
   unfold nxS
   rw [if_neg (by omega), show 100000 + 100 = 100100 from rfl, gp]; exact hq
  ·rw [nxA_s]
   unfold nxS
   rw [if_neg (by omega), np q h1 h2]
 by_cases hk : z = 2 ∧ x < B
 ·obtain ⟨rfl, hlt⟩ := hk
  obtain ⟨hlen, D, hD⟩ := hr rfl
  have hB := hB rfl
  have hxl : x.toNat < (E.s 1).len := by omega
  obtain ⟨d0, d1, i0, i1⟩ := hD.c x.toNat hxl
  obtain ⟨E', _, t, e11, e12, e20, e21, es1, e100, e13, e14, ev, er⟩ := key (fun i => if i = 13 then (D x.toNat).1 else if i = 14 then (D x.toNat).2 else ldR (D x.toNat).1) (fun _ => rowF 2048 (ldF2 f (D x.toNat).1 (D x.toNat).2))
  have e13 : E'.i 13 = (D x.toNat).1 := e13
  have e14 : E'.i 14 = (D x.toNat).2 := e14
  have e390 : E'.i 390 = ldR (D x.toNat).1 := ev 390 (by omega) (by omega)
  have hD' : RowV (E'.s 1) D := by rw [es1]; exact ⟨hD.esz, hD.c⟩
  refine ⟨1, σ, (B - x).toNat, E', (by show (1, σ) ∈ [(0, σ), (1, σ)]; simp), by omega, ⟨e20, e21, fun _ => ⟨by rw [e11, es1]; exact hlen, D, hD'⟩, fun _ => by rw [e11]; exact hB, by omega, by omega, .inl ⟨rfl, rfl, by omega, f, hf, e100, ?_, by rw [e13]; exact i0, by rw [e14]; exact i1, by rw [e390, e13]⟩⟩, t, ?_⟩
  ·rw [er 101 (by omega) (by omega), e13, e14]; exact rowF_is _ _
  ·refine row2_ok hV_rows.1 (by rw [e12, es1]; show x = ((x.toNat : Nat) : Int); omega) (by rw [es1]; exact hxl) hD' ?_ ?_
   ·rw [e13, es1]
   ·rw [e14, es1]
 ·obtain ⟨base, hbase⟩ : ∃ base : Nat → Int, base = fun i => match σ i with
   | some s => s.den E
   | none => 0 := ⟨_, rfl⟩
  obtain ⟨ca, cp, n, e, vs, ks, rows, hca, hcase, hvb, r100, hall⟩ := end_ex hf ha hp base (by rw [hbase]; simp only [g20]; exact h20) (by rw [hbase]; simp only [g21]; exact h21)
  obtain ⟨E', hE', t, e11, e12, e20, e21, es1, e100, e13, e14, ev, er⟩ := key (fun i => if i < 9000 then vs i else ((ks (i - 9000) : Nat) : Int)) (fun q => rowF 2048 (rows q))
  have hAg : AgV E' vs := fun i h1 h2 => by
   rw [hE']
   show (match σ i with
    | some s => s.den E
    | none => if i < 9000 then vs i else _) = _
   by_cases h3 : i < 300
   ·have hv := hvb i h3
    rw [hbase] at hv
    cases hs : σ i with
    | some s =>
     simp only [hs] at hv
     exact hv.symm
    | none =>
     show (if i < 9000 then vs i else _) = _
     rw [if_pos h1]
   ·rw [nf i (by omega) (by omega)]
    show (if i < 9000 then vs i else _) = _
    rw [if_pos h1]
  have hend := hall E' hAg (fun j h1 h2 => by
   rw [ev (9000 + j) (by omega) (by omega)]
   show (if 9000 + j < 9000 then _ else ((ks (9000 + j - 9000) : Nat) : Int)) = _
   rw [if_neg (by omega), show 9000 + j - 9000 = j from by omega]) (fun j h1 h2 => by
   by_cases h : j = 100
   ·subst h
    rw [r100]; exact e100
   ·rw [er j (by omega) (by omega)]; exact rowF_is _ _)
  refine ⟨0, σ, (B - x).toNat, E', ?_, by omega, ⟨e20, e21, fun h => ?_, fun h => by rw [e11]; exact hB h, by omega, by omega, .inr ⟨rfl, fun h => ?_, fun h => by rw [e12]; exact h00 h, ca, cp, n, e, hca, hcase, hend.1, hend.2⟩⟩, t, ?_⟩
  ·rcases hz with rfl | rfl
   ·show (0, σ) ∈ [(0, σ)]; simp
   ·show (0, σ) ∈ [(0, σ), (1, σ)]; simp
  ·obtain ⟨hlen, D, hD⟩ := hr h
   exact ⟨by rw [e11, es1]; exact hlen, D, by rw [es1]; exact ⟨hD.esz, hD.c⟩⟩
  ·have := hB h
   rw [e11, e12]; omega
  ·rcases hz with rfl | rfl
   ·exact rowU_ok hV_rows.2.2
   ·exact rowU_ok hV_rows.2.1
theorem sgV_cut {i : Nat} (a1 : i ≠ 11) (a2 : i ≠ 12) (a3 : i ≠ 5) (a4 : i ≠ 20) (a5 : i ≠ 21) (a6 : i ≠ 100100) : sgV i = none ∧ sgV0 i = none := by
 constructor <;> refine sgL_cut fun p hp => ?_ <;> simp only [List.mem_cons, List.not_mem_nil, or_false] at hp <;> rcases hp with rfl | rfl | rfl | rfl | rfl | rfl <;> assumption
theorem gV_ok (h : RndV E) : CallOk E PP gV.call := by
 obtain ⟨f, hf, hw, hw', i13, i14, i390⟩ := h
 exact callT_run (cxH_ok (hC0 E) (ldK_ok (e := ldV) (load_c i13) hw hw' (fun ρ => rfl) (fun ρ => rfl) i390)) 20
theorem gE_ok {a p n e : Nat} (h : EntsOk PP cP E 100 (entS 100 (chV a p n e))) : CallOk E PP (gE a p n e).call :=
 callT_run (cxI_ok (callT_run (hC0 E) 20) (hC0 E) h) 20
def rho1 (r : Row) : Rho := fun _ => ⟨r.b, 0⟩
theorem h0V_get {z : Nat} {p : Ev.P} {o : O} (h : (h0V z).t.get p = some o) : p = q1 ∧ o = o1v z [] := by
 have h : ((PT.e : PT O).set q1 (o1v z [])).get p = some o := h
 by_cases e : p = q1
 ·subst e
  rw [PT.get_set_same] at h
  exact ⟨rfl, (Option.some.inj h).symm⟩
 ·rw [PT.get_set_other _ _ _ _ (fun h => e h.symm), PT.get_e] at h
  cases h
theorem h0V_sat {z : Nat} (hz : z = 0 ∨ z = 2) {W : World} (w1 : z = 2 → W.heap[(E.s 1).b]? = some (.cells (E.s 1).cs (E.s 1).t (E.s 1).fz) ∧ (E.s 1).esz = 2 ∧ E.i 11 = (E.s 1).len) : Sat E (rho1 (E.s 1)) (h0V z) W := by
 refine ⟨fun p o hp => ?_, fun p q o o' hp hq l1 _ _ => ?_, fun p o hp => ?_⟩
 ·obtain ⟨rfl, rfl⟩ := h0V_get hp
  rcases hz with rfl | rfl
  ·trivial
  ·obtain ⟨h1, h2, h3⟩ := w1 rfl
   exact ⟨rfl, h1, h2, h3, fun h => absurd rfl h⟩
 ·obtain ⟨rfl, rfl⟩ := h0V_get hp
  obtain ⟨rfl, _⟩ := h0V_get hq
  rfl
 ·obtain ⟨rfl, rfl⟩ := h0V_get hp
  refine ⟨by show 1 < 2; omega, ?_⟩
  rcases hz with rfl | rfl <;> exact trivial
theorem h0V_new {z : Nat} {W : World} {ρ : Rho} : ∀ p o, (h0V z).t.get p = some o → o.live = true → (h0V z).lo.toNat ≤ p.toNat → W.heap.size ≤ (ρ p).b := by
 intro p o hp hl hlo
 have hlo : 2 ≤ p.toNat := hlo
 obtain ⟨rfl, _⟩ := h0V_get hp
 have : (q1 : Ev.P).toNat = 1 := rfl
 omega
theorem ends_any {z : Nat} (hz : z = 0 ∨ z = 2) {r1 : Row} {D1 : Nat → Int × Int} {a p : Int} (ha : I64 a) (hp : I64 p) (h1 : z = 2 → RowV r1 D1) {W : World} (w1 : z = 2 → W.heap[r1.b]? = some (.cells r1.cs r1.t r1.fz)) :
  Calls PP 7 #[v0 (Nat.beq z 0) r1, .int .i64 a, .int .i64 p] W fun e w' => e = .returned (.bool true) ∧ RowKit.Below W.heap.size W w' := by
 obtain ⟨E, hE⟩ : ∃ E : Env, E = ⟨fun i => if i = 11 then r1.len else if i = 20 then a else if i = 21 then p else 150, fun _ => false, fun q => if q = 1 then r1 else rowF 2048 (fun _ => 0)⟩ := ⟨_, rfl⟩
 have s1 : E.s 1 = r1 := by rw [hE]; rfl
 have i11 : E.i 11 = r1.len := by rw [hE]; rfl
 have i20 : E.i 20 = a := by rw [hE]; rfl
 have i21 : E.i 21 = p := by rw [hE]; rfl
 have s150 : E.s 150 = rowF 2048 (fun _ => 0) := by rw [hE]; rfl
 have hsat : Sat E (rho1 r1) (h0V z) W := by
  have := h0V_sat (E := E) (W := W) hz (by rw [s1]; exact fun h => ⟨w1 h, (h1 h).esz, i11⟩)
  rw [s1] at this; exact this
 have hbd : bdL 2 (arV z) := by
  refine ⟨?_, trivial, trivial, trivial⟩
  rcases hz with rfl | rfl
  ·exact trivial
  ·exact (by show 1 < 2; omega)
 have hargs : (γL E (rho1 r1) (arV z)).toArray = #[v0 (Nat.beq z 0) r1, .int .i64 a, .int .i64 p] := by
  have e1 : (a1v z).γ E (rho1 r1) = v0 (Nat.beq z 0) r1 := by
   rcases hz with rfl | rfl
   ·rfl
   ·show Value.slice _ _ _ = Value.slice _ _ _; rw [s1]
  simp only [arV, γL, e1, V.γ, SE.den, i20, i21]
 rw [← hargs]
 by_cases hb1 : z = 2 ∧ 2147483647 < r1.len
 ·obtain ⟨rfl, hb1⟩ := hb1
  obtain ⟨_, v, h', fa', hk, _, hrun⟩ := callS_run (hC0 E) 0 noCall_ok 7 (arV 2) (h0V 2) ⟨fB, []⟩ (endV (.b true)) bigV_ok (fa_list (l := fB) ⟨f_gt (show (2147483647 : Int) < E.i 11 by rw [i11]; omega), trivial⟩ trivial)
  have hv : v = .b true := by
   obtain ⟨h1, _⟩ := bc_ok (show bc (V.beq v (.b true)) 0 1 = 0 from hk) (by simp)
   exact V.beq_ok h1
  subst hv
  refine (hrun _ W hbd hsat).mono ?_
  rintro e w' ⟨ρ', rfl, s, x, _⟩
  refine ⟨rfl, x.os, x.tape, x.output, x.size, fun k hk => x.keep k hk fun p o hp hl hlo => ?_⟩
  have := h0V_new (W := W) (ρ := fun _ => ⟨0, 0⟩) p o hp hl hlo
  have : W.heap.size ≤ 0 := this
  omega
 have hfI : FsOk E (fI z) := by
  rcases hz with rfl | rfl
  ·exact trivial
  ·exact ⟨f_gtn (show E.i 11 ≤ 2147483647 by rw [i11]; have : ¬ 2147483647 < r1.len := fun h => hb1 ⟨rfl, h⟩; omega), trivial⟩
 obtain ⟨B, hBd⟩ : ∃ B : Int, B = if z = 2 then (r1.len : Int) else 0 := ⟨_, rfl⟩
 have hB1 : z = 2 → B = E.i 11 := fun h => by rw [hBd, if_pos h, i11]
 have hB0 : 0 ≤ B := by rw [hBd]; split <;> omega
 have hBs : B ≤ 2147483647 := by
  rw [hBd]; split
  ·rename_i h
   have : ¬ 2147483647 < r1.len := fun h' => hb1 ⟨h, h'⟩
   omega
  ·omega
 have hz0 : WA (fun _ => 0) := fun i => ⟨by show (0 : Int) ≤ 0; omega, by show (0 : Int) < 18446744073709551616; omega⟩
 have hin0 : CallOk E PP inVc := by
  have : trF .nil = fun _ => 0 := funext fun i => by unfold trF trAt; rw [Tr.get_nil]; rfl
  exact callAx_ok (asRow_ok (callT_run (hC0 E) 20) rfl (fun ρ L hp h => arr_row rfl (by rw [s150, this]; exact rowF_is _ _) ρ L hp h) (oaNil_bd _ _ _ _))
 refine cutG_law tyOk_tyOf mixedX Try.func7 qce w7 (st := stV z) (Inv := InvV z a p B) (fun m j E' hI => ?_) (E := E) (g0 := ⟨inVc, 7, 20000⟩) hin0 (fa := ⟨fI z, []⟩) (fa_list (l := fI z) hfI trivial) (nx := nxV z sgV0) (B.toNat + 1) ?_ ?_ hsat hbd h0V_new
 ·rcases hI.c with ⟨rfl, rfl, hlt, hR⟩ | ⟨rfl, e3, e4, ca, cp, n, e, hca, hcase, hents, hfs⟩
  ·obtain ⟨hlen, D, hD⟩ := hI.r rfl
   refine ⟨gV, ⟨[(.cmp .lss (.v 12) (.v 11), true)], []⟩, nxV 2 sgV, gV_ok hR, fa_list (l := [(.cmp .lss (.v 12) (.v 11), true)]) ⟨f_lt hlt, trivial⟩ trivial, goV_ok, ?_⟩
   have hm := hI.m
   have h0 := hI.i0
   have hb := hI.b rfl
   obtain ⟨f, hf, hw, hw', i13, i14, i390⟩ := hR
   have cut := fun {i : Nat} a1 a2 a3 a4 a5 a6 => (sgV_cut (i := i) a1 a2 a3 a4 a5 a6).1
   exact leadV (E := E') (q := 101) (m := m) (B := B) (x := E'.i 12 + 1) (.inr rfl) ha hp (wa_ld hf i14) (σ := sgV) hw' rfl (s12 := .op .add .i64 (.v 12) (.lit 1)) rfl (by
    show wrapF .i64 (E'.i 12 + 1) = _
    rw [wrapF_eq, IntKind.wrap_i64]; omega) rfl hI.i20 rfl hI.i21 rfl ⟨rfl, rfl⟩ (fun i h1 h2 => cut (by omega) (by omega) (by omega) (by omega) (by omega) (by omega)) (fun q h1 h2 => cut (by omega) (by omega) (by omega) (by omega) (by omega) (by omega)) (fun _ => ⟨hlen, D, hD⟩) (by omega) hI.b (by omega) (fun h => by omega) (by omega)
  ·refine ⟨gE ca cp n e, ⟨fE z ++ fsV ca cp n e, []⟩, [], gE_ok hents, fa_list (l := fE z ++ fsV ca cp n e) (fs_app ⟨?_, trivial⟩ hfs) trivial, outV_ok hz hca hcase, fun h => absurd rfl h⟩
   rcases hz with rfl | rfl
   ·exact f_ltn (show 0 ≤ E'.i 12 from hI.i0)
   ·exact f_ltn (show E'.i 11 ≤ E'.i 12 by have := e3 rfl; omega)
 ·have cut := fun {i : Nat} a1 a2 a3 a4 a5 a6 => (sgV_cut (i := i) a1 a2 a3 a4 a5 a6).2
  exact leadV (E := E) (z := z) (q := 150) (m := B.toNat + 1) (B := B) (x := 0) hz ha hp hz0 (σ := sgV0) (by rw [s150]; exact rowF_is _ _) rfl (s12 := .lit 0) rfl rfl rfl i20 rfl i21 rfl ⟨rfl, rfl⟩ (fun i h1 h2 => cut (by omega) (by omega) (by omega) (by omega) (by omega) (by omega)) (fun q h1 h2 => cut (by omega) (by omega) (by omega) (by omega) (by omega) (by omega)) (fun h => ⟨by rw [i11, s1], D1, by rw [s1]; exact h1 h⟩) (Int.le_refl 0) hB1 hB0 (fun _ => rfl) (by omega)
 ·rcases hz with rfl | rfl
  ·exact inV_ok.1
  ·exact inV_ok.2
end Go.Ev.X
end
