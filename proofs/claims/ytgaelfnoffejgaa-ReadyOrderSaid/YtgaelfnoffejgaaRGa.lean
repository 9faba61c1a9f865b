/-
 What is refused: one who waits is not pushed; one who does not is not dropped.
-/
import Derived.Test.YtgaelfnoffejgaaMWr
import Derived.Test.YtgaelfnoffejgaaMHp
import Derived.Test.YtgaelfnoffejgaaRP
import Derived.Test.YtgaelfnoffejgaaRA
set_option linter.unusedSimpArgs false
set_option linter.unusedVariables false
set_option maxRecDepth 100000
noncomputable section
namespace Go.Ev.X
open Go Go.Ev Go.Proofs
variable {E : Env} {f f' : Nat → Int} {Q : Nat → List Nat} {t : Nat}
def thE (F : Nat) : List Ent := [⟨F, [.si .i64 (.v 1)], 1, .tup [tD 100, .i .i64 0], .v 9000⟩]
def f103 (b : Bool) : Fa := ⟨[(.cmp .eql (.v 103) (.lit 1), b)], []⟩
theorem full_run : runX cx0 cP (thE 13) [] 11 [.si .i64 (.v 1)] (f103 true) (.i .i64 120) 1 s1 = 0 := by decide +kernel
theorem empty_run : runX cx0 cP (thE 13) [] 12 [.si .i64 (.v 1)] (f103 false) (.i .i64 121) 1 s1 = 0 := by decide +kernel
def fullVs (f : Nat → Int) (t : Nat) : Nat → Int := fun i => match i / 100 with
 | 0 => (t : Int)
 | 1 => fldT (getT f t) (regs f t) (i % 100)
 | 90 => 20
 | _ => 0
theorem thE_ok {c : MC} {F : Nat} {st : Int} (hm : MemC PP c F [.int .i64 t] f (.tuple #[thV (getT f t) (regs f t), .int .i64 0]) f 20) : EntsOk PP c (envX c.N st (fullVs f t) fun _ => f) 0 (thE F) :=
 ⟨ent_y (k := 20) hm (by omega) rfl (fun ρ => rfl) (fun ρ => tupT (thG rfl rfl rfl (vsb (sbq rfl)) rfl rfl rfl rfl (vsb (sbq rfl)) (vsb (sbq rfl)) rfl rfl rfl rfl rfl rfl rfl rfl rfl rfl rfl rfl rfl rfl rfl rfl rfl rfl rfl rfl)), trivial⟩
theorem refused {c : MC} (hN : c.N ≤ 8192) {F F' : Nat} {b : Bool} {l : List V} {args : List Value} {n : Int} (hr : runX cx0 c (thE F') [] F (.si .i64 (.v 1) :: l) (f103 b) (.i .i64 n) 1 s1 = 0) (hl : bdLB .h l = true) (ha : ∀ E ρ, γL E ρ l = args) (hq : (getT f t).q = b)
  (hm : MemC PP c F' [.int .i64 t] f (.tuple #[thV (getT f t) (regs f t), .int .i64 0]) f 20) : MemC PP c F (.int .i64 t :: args) f (.int .i64 n) f 20 :=
 memC_x (k := 0 + 20) hC0 hN hr hl (fullVs f t) (fun _ => f) fun st => ⟨stp_add (k := 0) (m := 20) rfl rfl (by omega), fa_list ⟨(sbq rfl).trans hq, trivial⟩ trivial, thE_ok hm, ps_list trivial, fun ρ => by
  show Value.int .i64 (t : Nat) :: γL _ ρ l = _
  rw [ha], fun ρ => rfl⟩
theorem full_p (h : QInv TT f Q) (ht : TT t) (hq : (getT f t).q = true) : MemB PP cP 90 11 [.int .i64 t] f (.int .i64 120) f := ⟨20, by omega, refused (by decide) full_run rfl (fun _ _ => rfl) hq (thr_p ht (h.thr t ht))⟩
theorem empty_p (h : QInv TT f Q) (ht : TT t) (hq : (getT f t).q = false) : MemB PP cP 130 12 [.int .i64 t] f (.int .i64 121) f := ⟨20, by omega, refused (by decide) empty_run rfl (fun _ _ => rfl) hq (thr_p ht (h.thr t ht))⟩
end Go.Ev.X
end
/-
 What the laws of the queues have in common.
-/
set_option linter.unusedSimpArgs false
set_option linter.unusedVariables false
set_option maxRecDepth 100000
noncomputable section
namespace Go.Ev.X
open Go Go.Ev Go.Proofs
variable {E : Env} {f f' : Nat → Int} {Q : Nat → List Nat} {t : Nat}
theorem sgL_cut {l : List (Nat × SE)} {i : Nat} (h : ∀ p ∈ l, i ≠ p.1) : sgL l i = none := by
 induction l with
 | nil => rfl
 | cons p r ih =>
  obtain ⟨a, s⟩ := p
  have e : Nat.beq i a = false := by
   rw [Bool.eq_false_iff]; simpa using h (a, s) (by simp)
  show bc (Nat.beq i a) (some s) (sgL r i) = none
  rw [e]
  exact ih fun p hp => h p (by simp [hp])
theorem fs_app {l m : List (SB × Bool)} (h1 : FsOk E l) (h2 : FsOk E m) : FsOk E (l ++ m) := by
 induction l with
 | nil => exact h2
 | cons p r ih =>
  obtain ⟨c, b⟩ := p
  exact ⟨h1.1, ih h1.2⟩
theorem fs_map {s : Nat → SB × Bool} : ∀ (m i : Nat), (∀ k, i ≤ k → k < i + m → (s k).1.den E = (s k).2) → FsOk E ((rngF i m).map s)
 | 0, i, h => trivial
 | m + 1, i, h => ⟨h i (by omega) (by omega), fs_map m (i + 1) fun k h1 h2 => h k (by omega) (by omega)⟩
theorem ents_app {c : MC} : ∀ {es : List Ent} {q : Nat} {r : List Ent}, EntsOk PP c E q es → EntsOk PP c E (q + es.length) r → EntsOk PP c E q (es ++ r)
 | [], q, r, _, h => h
 | e :: es, q, r, h, h2 => ⟨h.1, ents_app h.2 (by rw [show q + 1 + es.length = q + (e :: es).length by simp; omega]; exact h2)⟩
theorem tA_ok {ρ : Rho} {b : Nat} {x0 x1 x2 x3 x4 x5 x6 x7 x8 x9 x10 x11 x12 x13 : V} {v : TV} {r : Nat → Int} (h0 : x0.γ E ρ = .int .i64 v.st) (h1 : x1.γ E ρ = .int .i64 v.pr) (h2 : x2.γ E ρ = .int .i64 v.sl) (h3 : x3.γ E ρ = .bool v.q) (h4 : x4.γ E ρ = .int .i64 v.pv) (h5 : x5.γ E ρ = .int .i64 v.nx) (h6 : x6.γ E ρ = .int .i64 v.bl) (h7 : x7.γ E ρ = .int .i64 v.bd) (h8 : x8.γ E ρ = .bool v.g) (h9 : x9.γ E ρ = .bool v.c) (h10 : x10.γ E ρ = .int .i64 v.bo) (h11 : x11.γ E ρ = .int .i64 v.ha) (h12 : x12.γ E ρ = .int .i64 v.fk) (h13 : x13.γ E ρ = .int .i64 v.fa)
  (hr : ∀ j, j < 30 → E.i (b + j) = fldT v r j) : (tA b x0 x1 x2 x3 x4 x5 x6 x7 x8 x9 x10 x11 x12 x13).γ E ρ = thV v r :=
 thG h0 h1 h2 h3 h4 h5 h6 h7 h8 h9 h10 h11 h12 h13 (vsi (hr 14 (by omega))) (vsi (hr 15 (by omega))) (vsi (hr 16 (by omega))) (vsi (hr 17 (by omega))) (vsi (hr 18 (by omega))) (vsi (hr 19 (by omega))) (vsi (hr 20 (by omega))) (vsi (hr 21 (by omega))) (vsi (hr 22 (by omega))) (vsi (hr 23 (by omega))) (vsi (hr 24 (by omega))) (vsi (hr 25 (by omega))) (vsi (hr 26 (by omega))) (vsi (hr 27 (by omega))) (vsi (hr 28 (by omega))) (vsi (hr 29 (by omega)))
theorem len_le : ∀ {S L : List Nat}, L.Nodup → (∀ x ∈ L, x ∈ S) → L.length ≤ S.length
 | [], L, hn, h => by
  cases L with
  | nil => simp
  | cons a r => exact absurd (h a (by simp)) (by simp)
 | s :: S, L, hn, h => by
  by_cases hs : s ∈ L
  ·obtain ⟨a, b, rfl⟩ := List.append_of_mem hs
   obtain ⟨na, nb, nab⟩ := List.nodup_append.1 hn
   have nb' := List.nodup_cons.1 nb
   have hab : (a ++ b).Nodup := List.nodup_append.2 ⟨na, nb'.2, fun x hx y hy => nab x hx y (by simp [hy])⟩
   have := len_le (S := S) hab fun x hx => by
    have hx' : x ∈ a ++ s :: b := by
     rcases List.mem_append.1 hx with h1 | h1
     ·simp [h1]
     ·simp [h1]
    rcases List.mem_cons.1 (h x hx') with rfl | h2
    ·rcases List.mem_append.1 hx with h1 | h1
     ·exact absurd rfl (nab x h1 x (by simp))
     ·exact absurd h1 nb'.1
    ·exact h2
   simp at this ⊢; omega
  ·have := len_le (S := S) hn fun x hx => by
    rcases List.mem_cons.1 (h x hx) with rfl | h2
    ·exact absurd hx hs
    ·exact h2
   simp; omega
theorem len8 {L : List Nat} (hn : L.Nodup) (h : ∀ x ∈ L, TT x) : L.length ≤ 8 := len_le (S := thrL) hn fun x hx => TT_mem (h x hx)
theorem getD_mem {L : List Nat} {i : Nat} (hi : i < L.length) : L.getD i 0 ∈ L := by
 rw [List.getD_eq_getElem?_getD, List.getElem?_eq_getElem hi]
 exact List.getElem_mem _
def rowsB1 (h : H) : Bool := hc h (fun _ _ t => ptAll (fun _ o => match o with
 | .row q z N I l => vlBeq l [] || (Nat.beq q 1 && Nat.beq z 1 && SE.beq I (.v 12) && vlBeq l [.si .i64 (.v 13)])
 | _ => true) (fun p => p) t)
theorem rowsB1_ok {h : H} (hr : rowsB1 h = true) (h2 : E.i 12 = (E.s 1).idx) (hx : (E.s 1).idx < (E.s 1).len ∧ (E.s 1).cs[(E.s 1).off + (E.s 1).idx]? = some (.int .i64 (E.i 13))) : ∀ p o, h.t.get p = some o → RowEl E o := by
 intro p o hp
 unfold rowsB1 at hr
 rw [hc_eq] at hr
 have := ptAll_ok _ _ p o hr hp
 cases o with
 | row q z N I l =>
  simp only [Bool.or_eq_true, Bool.and_eq_true, Nat.beq_eq] at this
  rcases this with h1 | ⟨⟨⟨rfl, rfl⟩, hI⟩, hl⟩
  ·have := vlBeq_ok h1
   subst this
   exact fun h => absurd rfl h
  ·have hI := SE.beq_eq hI
   have hl := vlBeq_ok hl
   subst hI; subst hl
   obtain ⟨g1, g2⟩ := hx
   intro _
   refine ⟨h2, g1, rfl, fun ρ i hi => ?_⟩
   have : i = 0 := by simpa using hi
   subst this
   rw [Nat.mul_one, Nat.add_zero, g2]; rfl
 | _ => trivial
theorem nxA_s (σ : Sg) (E : Env) (x : Int) (vs : Nat → Int) (rows : Nat → Row) (q : Nat) : (nxA σ E x vs rows).s q = nxS σ E x rows q := rfl
theorem hM0_get {b : Bool} {z : Nat} {p : Ev.P} {o : O} (h : (hM0 false b z).t.get p = some o) : (p = q1 ∧ o = o0 b []) ∨ (p = q2 ∧ o = o1 z) := by
 have h : (((PT.e : PT O).set q1 (o0 b [])).set q2 (o1 z)).get p = some o := h
 by_cases e2 : p = q2
 ·subst e2
  rw [PT.get_set_same] at h
  exact .inr ⟨rfl, (Option.some.inj h).symm⟩
 ·rw [PT.get_set_other _ _ _ _ (fun e => e2 e.symm)] at h
  by_cases e1 : p = q1
  ·subst e1
   rw [PT.get_set_same] at h
   exact .inl ⟨rfl, (Option.some.inj h).symm⟩
  ·rw [PT.get_set_other _ _ _ _ (fun e => e1 e.symm), PT.get_e] at h
   cases h
def rho2 (r0 r1 : Row) : Rho := fun p => if p.toNat = 1 then ⟨r0.b, 0⟩ else ⟨r1.b, 0⟩
theorem hM0_sat {b : Bool} {z : Nat} (hz : z ≤ 3) {W : World} (w0 : b = false → W.heap[(E.s 0).b]? = some (.cells (E.s 0).cs (E.s 0).t (E.s 0).fz) ∧ (E.s 0).esz = 1 ∧ E.i 1 = (E.s 0).len) (w1 : z ≠ 0 → W.heap[(E.s 1).b]? = some (.cells (E.s 1).cs (E.s 1).t (E.s 1).fz) ∧ (E.s 1).esz = z ∧ E.i 11 = (E.s 1).len) : Sat E (rho2 (E.s 0) (E.s 1)) (hM0 false b z) W := by
 refine ⟨fun p o hp => ?_, fun p q o o' hp hq l1 _ _ => ?_, fun p o hp => ?_⟩
 ·rcases hM0_get hp with ⟨rfl, rfl⟩ | ⟨rfl, rfl⟩
  ·cases b with
   | true => exact trivial
   | false =>
    obtain ⟨g1, g2, g3⟩ := w0 rfl
    exact ⟨rfl, g1, g2, g3, fun h => absurd rfl h⟩
  ·match z, w1 with
   | 0, _ => exact trivial
   | z + 1, w1 =>
    obtain ⟨g1, g2, g3⟩ := w1 (by omega)
    exact ⟨rfl, g1, g2, g3, fun h => absurd rfl h⟩
 ·exfalso
  rcases hM0_get hp with ⟨rfl, rfl⟩ | ⟨rfl, rfl⟩
  ·cases b <;> simp [o0, O.mine] at l1
  ·match z with
   | 0 => simp [o1, O.mine] at l1
   | z + 1 => simp [o1, O.mine] at l1
 ·rcases hM0_get hp with ⟨rfl, rfl⟩ | ⟨rfl, rfl⟩
  ·exact ⟨by show 1 < 3; omega, by cases b <;> exact trivial⟩
  ·refine ⟨by show 2 < 3; omega, ?_⟩
   match z with
   | 0 => exact trivial
   | z + 1 => exact trivial
theorem hM0_new {b : Bool} {z : Nat} {W : World} {ρ : Rho} : ∀ p o, (hM0 false b z).t.get p = some o → o.live = true → (hM0 false b z).lo.toNat ≤ p.toNat → W.heap.size ≤ (ρ p).b := by
 intro p o hp hl hlo
 have hlo : 3 ≤ p.toNat := hlo
 rcases hM0_get hp with ⟨rfl, _⟩ | ⟨rfl, _⟩
 ·have : (q1 : Ev.P).toNat = 1 := rfl
  omega
 ·have : (q2 : Ev.P).toNat = 2 := rfl
  omega
def v0 (b : Bool) (r : Row) : Value := bif b then .slice none 0 0 else .slice (some ⟨r.b, r.off, none⟩) r.len r.cap
theorem big_run {F : Nat} {b : Bool} {z : Nat} {l : List V} {fs : List (SB × Bool)} (hr : callS cx0 0 noCall F l (hM0 false b z) ⟨fs, []⟩ (endV (.b true)) = 0) (hfs : FsOk E fs) (hl : bdL 3 l) {ρ : Rho} {W : World} (hs : Sat E ρ (hM0 false b z) W) : Calls PP F (γL E ρ l).toArray W fun e w' => e = .returned (.bool true) ∧ RowKit.Below W.heap.size W w' := by
 obtain ⟨_, v, h', fa', hk, _, hrun⟩ := callS_run (hC0 E) 0 noCall_ok F l (hM0 false b z) ⟨fs, []⟩ (endV (.b true)) hr (fa_list hfs trivial)
 have hv : v = .b true := by
  obtain ⟨h1, _⟩ := bc_ok (show bc (V.beq v (.b true)) 0 1 = 0 from hk) (by simp)
  exact V.beq_ok h1
 subst hv
 refine (hrun ρ W hl hs).mono ?_
 rintro e w' ⟨ρ', rfl, s, x, _⟩
 refine ⟨rfl, x.os, x.tape, x.output, x.size, fun k hk => x.keep k hk fun p o hp hl hlo => ?_⟩
 have := hM0_new (W := W) (ρ := fun _ => ⟨0, 0⟩) p o hp hl hlo
 have : W.heap.size ≤ 0 := this
 omega
end Go.Ev.X
end
