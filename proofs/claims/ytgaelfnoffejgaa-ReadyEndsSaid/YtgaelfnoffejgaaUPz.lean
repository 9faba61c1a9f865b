/-
 Contracts of what is done to a neighbour, of any words.
-/
import Derived.Test.YtgaelfnoffejgaaUR
import Derived.Test.YtgaelfnoffejgaaUTa
import Derived.Test.YtgaelfnoffejgaaUTb
import Derived.Test.YtgaelfnoffejgaaE6
import Derived.Test.YtgaelfnoffejgaaRG
import Derived.Test.YtgaelfnoffejgaaUDz
set_option linter.unusedSimpArgs false
set_option linter.unusedVariables false
set_option maxRecDepth 100000
noncomputable section
namespace Go.Ev.X
open Go Go.Ev Go.Proofs
variable {E : Env} {f f' : Nat → Int} {t : Nat}
theorem tA_ok4 {ρ : Rho} {b : Nat} {x0 x1 x2 x3 x4 x5 x6 x7 x8 x9 x10 x11 x12 x13 : V} {v : TV} {r : Nat → Int} (h0 : x0.γ E ρ = .int .i64 v.st) (h1 : x1.γ E ρ = .int .i64 v.pr) (h2 : x2.γ E ρ = .int .i64 v.sl) (h3 : x3.γ E ρ = .bool v.q) (h4 : x4.γ E ρ = .int .i64 v.pv) (h5 : x5.γ E ρ = .int .i64 v.nx) (h6 : x6.γ E ρ = .int .i64 v.bl) (h7 : x7.γ E ρ = .int .i64 v.bd) (h8 : x8.γ E ρ = .bool v.g) (h9 : x9.γ E ρ = .bool v.c) (h10 : x10.γ E ρ = .int .i64 v.bo) (h11 : x11.γ E ρ = .int .i64 v.ha) (h12 : x12.γ E ρ = .int .i64 v.fk) (h13 : x13.γ E ρ = .int .i64 v.fa)
  (hr : ∀ j, 14 ≤ j → j < 30 → E.i (b + j) = fldT v r j) : (tA b x0 x1 x2 x3 x4 x5 x6 x7 x8 x9 x10 x11 x12 x13).γ E ρ = thV v r :=
 thG h0 h1 h2 h3 h4 h5 h6 h7 h8 h9 h10 h11 h12 h13 (vsi (hr 14 (by omega) (by omega))) (vsi (hr 15 (by omega) (by omega))) (vsi (hr 16 (by omega) (by omega))) (vsi (hr 17 (by omega) (by omega))) (vsi (hr 18 (by omega) (by omega))) (vsi (hr 19 (by omega) (by omega))) (vsi (hr 20 (by omega) (by omega))) (vsi (hr 21 (by omega) (by omega))) (vsi (hr 22 (by omega) (by omega))) (vsi (hr 23 (by omega) (by omega))) (vsi (hr 24 (by omega) (by omega))) (vsi (hr 25 (by omega) (by omega))) (vsi (hr 26 (by omega) (by omega))) (vsi (hr 27 (by omega) (by omega))) (vsi (hr 28 (by omega) (by omega))) (vsi (hr 29 (by omega) (by omega)))
theorem sth_u (ht : T16 t) {v : TV} (h : v.Right) : MemC PP cP 28 [.int .i64 t, thV v (regs f t)] f (.int .i64 0) (setT f t v) 20 := by
 obtain ⟨i, hi, rfl⟩ := ht
 have go : ∀ {o : Nat}, allB (fun i => allB (fun q => allB (fun g => allB (fun c => smK cP 28 (stS q g c (t16 i))) bools) bools) bools) (rngF o 4) = true → o ≤ i → i < o + 4 → MemC PP cP 28 [.int .i64 (t16 i), thV v (regs f (t16 i))] f (.int .i64 0) (setT f (t16 i) v) 20 := fun {o} hr h1 h2 => by
  have k := smK_ok (allB_ok (allB_ok (allB_ok (allB_ok hr i (mem_rngF h1 h2)) v.q (b_mem _)) v.g (b_mem _)) v.c (b_mem _))
  exact setThread_c hcl k.1 k.2 h
 by_cases h0 : i < 4
 ·exact go st16_run0 (by omega) (by omega)
 by_cases h1 : i < 8
 ·exact go st16_run1 (by omega) (by omega)
 by_cases h2 : i < 12
 ·exact go st16_run2 (by omega) (by omega)
 exact go st16_run3 (by omega) (by omega)
theorem thV_congr {v : TV} {r s : Nat → Int} (h : ∀ j, j < 16 → r j = s j) : thV v r = thV v s := by
 unfold thV
 rw [h 0 (by omega), h 1 (by omega), h 2 (by omega), h 3 (by omega), h 4 (by omega), h 5 (by omega), h 6 (by omega), h 7 (by omega), h 8 (by omega), h 9 (by omega), h 10 (by omega), h 11 (by omega), h 12 (by omega), h 13 (by omega), h 14 (by omega), h 15 (by omega)]
theorem wa_upd (h : WA f) {a : Nat} {x : Int} (hx : W64 x) : WA (upd f a x) := fun i => by
 by_cases e : i = a
 ·subst e; rw [upd_same]; exact hx
 ·rw [upd_other _ _ e]; exact h i
theorem wa_setT (h : WA f) {v : TV} (hv : v.Right) : WA (setT f t v) := by
 obtain ⟨a, b, c, d, _⟩ := w_lt hv
 exact wa_upd (wa_upd (wa_upd (wa_upd h ⟨a.1, by omega⟩) ⟨b.1, b.2⟩) ⟨c.1, by omega⟩) ⟨d.1, d.2⟩
theorem wa_setQ (h : WA f) {p : Nat} (hp : p < 256) {a b : Int} (ha : 0 ≤ a ∧ a < 65536) (hb : 0 ≤ b ∧ b < 65536) : WA (setQ f p a b) :=
 wa_upd (wa_upd (wa_upd h ⟨by omega, by omega⟩) (bitW_64 (by omega) _ (h _))) (bitW_64 (by omega) _ (h _))
theorem setT_regs (ht : T16 t) {u : Nat} (hu : T16 u) (v : TV) {j : Nat} (hj : j < 16) : setT f u v (t + 32 + j) = f (t + 32 + j) := by
 obtain ⟨i, hi, rfl⟩ := ht
 obtain ⟨k, hk, rfl⟩ := hu
 refine setT_other f v ?_
 unfold t16
 omega
def Kp (f f' : Nat → Int) : Prop := ∀ t j, T16 t → j < 16 → f' (t + 32 + j) = f (t + 32 + j)
theorem tfs0 {vs : Nat → Int} {i : Nat} {x : Int} (hi : i < 9000) (h5 : i ≠ 5) (hv : vs i = x) (hE : AgV E vs) : E.i i = x := (hE i hi h5).trans hv
theorem turn_ex (hw : WA f) {x val : Int} (hx : 0 ≤ x ∧ x < 65536) (hv : 0 ≤ val ∧ val < 65536) (nx : Bool) : ∃ (o K : Nat) (f' : Nat → Int), o < 6 ∧ (o = 0 ↔ x = 0) ∧ K ≤ 40 ∧ WA f' ∧ Kp f f' ∧
  ∀ (vs : Nat → Int) (i b : Nat) (sx : SE), i < 9000 → i ≠ 5 → vs i = x → (∀ E, AgV E vs → sx.den E = val) → (∀ j, j < 30 → vs (b + j) = fldT (getT f x.toNat) (regs f x.toNat) j) → b + 30 < 9000 → 5 < b → Chain PP cP vs (tsh (.v i) b nx sx o) f f' K ∧ ∀ E, AgV E vs → FsOk E (tfs (.v i) o) := by
 have none : ∀ o, (o = 1 ∨ o = 2 ∨ o = 3) → x ≠ 0 → (∀ E : Env, ∀ i, E.i i = x → FsOk E (tfs (.v i) o)) → ∃ (o K : Nat) (f' : Nat → Int), o < 6 ∧ (o = 0 ↔ x = 0) ∧ K ≤ 40 ∧ WA f' ∧ Kp f f' ∧
  ∀ (vs : Nat → Int) (i b : Nat) (sx : SE), i < 9000 → i ≠ 5 → vs i = x → (∀ E, AgV E vs → sx.den E = val) → (∀ j, j < 30 → vs (b + j) = fldT (getT f x.toNat) (regs f x.toNat) j) → b + 30 < 9000 → 5 < b → Chain PP cP vs (tsh (.v i) b nx sx o) f f' K ∧ ∀ E, AgV E vs → FsOk E (tfs (.v i) o) := fun o ho h0 hfs =>
  ⟨o, 0, f, by omega, by constructor <;> intro h <;> omega, by omega, hw, fun _ _ _ _ => rfl, fun vs i b sx hi h5 hvi _ _ _ _ => ⟨by rcases ho with rfl | rfl | rfl <;> exact Chain.nil f, fun E hE => hfs E i (tfs0 hi h5 hvi hE)⟩⟩
 by_cases h0 : x = 0
 ·exact ⟨0, 0, f, by omega, by simp [h0], by omega, hw, fun _ _ _ _ => rfl, fun vs i b sx hi h5 hvi _ _ _ _ => ⟨Chain.nil f, fun E hE => ⟨f_nen (by show E.i i = 0; rw [tfs0 hi h5 hvi hE, h0]), trivial⟩⟩⟩
 have ne : ∀ E : Env, ∀ i, E.i i = x → (SB.cmp .neq (.v i) (.lit 0)).den E = true := fun E i h => f_ne (by show E.i i ≠ 0; rw [h]; exact h0)
 have rem : ∀ E : Env, ∀ i, E.i i = x → SE.den E (.op .rem .i64 (.v i) (.lit 64)) = x % 64 := fun E i h => by
  show (E.i i).tmod 64 = _
  rw [h, Int.tmod_eq_emod_of_nonneg hx.1]
 by_cases h1 : 1024 ≤ x
 ·by_cases h2 : x % 64 = 0
  ·by_cases h3 : x ≤ 1984
   ·have hT : T16 x.toNat := ⟨(x.toNat - 1024) / 64, by omega, by unfold t16; omega⟩
    have hxn : ((x.toNat : Nat) : Int) = x := by omega
    by_cases hr : RightAt f x.toNat
    ·have hv0 := getT_right hr
     have hv1 : TV.Right (bif nx then { getT f x.toNat with nx := val } else { getT f x.toNat with pv := val }) := by
      cases nx with
      | true => exact ⟨hv0.st, hv0.pr, hv0.sl, hv0.pv, hv, hv0.bl, hv0.bd, hv0.bo, hv0.ha, hv0.fk, hv0.fa⟩
      | false => exact ⟨hv0.st, hv0.pr, hv0.sl, hv, hv0.nx, hv0.bl, hv0.bd, hv0.bo, hv0.ha, hv0.fk, hv0.fa⟩
     refine ⟨5, 20 + (20 + 0), setT f x.toNat _, by omega, by constructor <;> intro h <;> omega, by omega, wa_setT hw hv1, fun t j ht hj => setT_regs ht hT _ hj, fun vs i b sx hi h5 hvi hsx h8 hb hb5 => ⟨?_, fun E hE => ⟨ne E i (tfs0 hi h5 hvi hE), trivial⟩⟩⟩
     have fl : ∀ E, AgV E vs → ∀ j, j < 30 → E.i (b + j) = fldT (getT f x.toNat) (regs f x.toNat) j := fun E hE j hj => (hE (b + j) (by omega) (by omega)).trans (h8 j hj)
     have ai : ∀ E, AgV E vs → ∀ ρ, (V.si .i64 (.v i)).γ E ρ = .int .i64 (x.toNat : Nat) := fun E hE ρ => vsi (by rw [hxn]; exact tfs0 hi h5 hvi hE)
     refine Chain.cons (by omega) (thr_u hT hr) (fun E hE ρ => arg1 (ai E hE ρ)) (fun E hE ρ => tupT (tA_ok (vsi (fl E hE 0 (by omega))) (vsi (fl E hE 1 (by omega))) (vsi (fl E hE 2 (by omega))) (vsb (sbq (fl E hE 3 (by omega)))) (vsi (fl E hE 4 (by omega))) (vsi (fl E hE 5 (by omega))) (vsi (fl E hE 6 (by omega))) (vsi (fl E hE 7 (by omega))) (vsb (sbq (fl E hE 8 (by omega)))) (vsb (sbq (fl E hE 9 (by omega)))) (vsi (fl E hE 10 (by omega))) (vsi (fl E hE 11 (by omega))) (vsi (fl E hE 12 (by omega))) (vsi (fl E hE 13 (by omega))) (fl E hE)))
      (Chain.cons (by omega) (sth_u (f := f) hT hv1) (fun E hE ρ => arg2 (ai E hE ρ) ?_) (fun E hE ρ => rfl) (Chain.nil _))
     have rr : ∀ E, AgV E vs → ∀ {w : TV} j, 14 ≤ j → j < 30 → E.i (b + j) = fldT w (regs f x.toNat) j := fun E hE w j h1 h2 => (fl E hE j h2).trans (by
      obtain ⟨i, rfl⟩ : ∃ i, j = i + 14 := ⟨j - 14, by omega⟩
      rfl)
     cases nx with
     | true => exact tA_ok4 (vsi (fl E hE 0 (by omega))) (vsi (fl E hE 1 (by omega))) (vsi (fl E hE 2 (by omega))) (vsb (sbq (fl E hE 3 (by omega)))) (vsi (fl E hE 4 (by omega))) (vsi (hsx E hE)) (vsi (fl E hE 6 (by omega))) (vsi (fl E hE 7 (by omega))) (vsb (sbq (fl E hE 8 (by omega)))) (vsb (sbq (fl E hE 9 (by omega)))) (vsi (fl E hE 10 (by omega))) (vsi (fl E hE 11 (by omega))) (vsi (fl E hE 12 (by omega))) (vsi (fl E hE 13 (by omega))) (rr E hE)
     | false => exact tA_ok4 (vsi (fl E hE 0 (by omega))) (vsi (fl E hE 1 (by omega))) (vsi (fl E hE 2 (by omega))) (vsb (sbq (fl E hE 3 (by omega)))) (vsi (hsx E hE)) (vsi (fl E hE 5 (by omega))) (vsi (fl E hE 6 (by omega))) (vsi (fl E hE 7 (by omega))) (vsb (sbq (fl E hE 8 (by omega)))) (vsb (sbq (fl E hE 9 (by omega)))) (vsi (fl E hE 10 (by omega))) (vsi (fl E hE 11 (by omega))) (vsi (fl E hE 12 (by omega))) (vsi (fl E hE 13 (by omega))) (rr E hE)
    ·exact ⟨4, 4 + 0, f, by omega, by constructor <;> intro h <;> omega, by omega, hw, fun _ _ _ _ => rfl, fun vs i b sx hi h5 hvi _ _ _ _ => ⟨Chain.cons (by omega) (bad_u hT hw hr) (fun E hE ρ => arg1 (vsi (by rw [hxn]; exact tfs0 hi h5 hvi hE))) (fun E hE ρ => rfl) (Chain.nil f), fun E hE => ⟨ne E i (tfs0 hi h5 hvi hE), trivial⟩⟩⟩
   ·exact none 3 (by omega) h0 fun E i h => ⟨ne E i h, f_ge (by show (1024 : Int) ≤ E.i i; rw [h]; exact h1), f_eq (by rw [rem E i h, h2]; rfl), f_len (by show (1984 : Int) < E.i i; rw [h]; omega), trivial⟩
  ·exact none 2 (by omega) h0 fun E i h => ⟨ne E i h, f_ge (by show (1024 : Int) ≤ E.i i; rw [h]; exact h1), f_eqn (by rw [rem E i h]; exact h2), trivial⟩
 ·exact none 1 (by omega) h0 fun E i h => ⟨ne E i h, f_gen (by show E.i i < (1024 : Int); rw [h]; omega), trivial⟩
end Go.Ev.X
end
/-
 Contracts of pushing and dropping, of any words: so few steps, and words again.
-/
set_option linter.unusedSimpArgs false
set_option linter.unusedVariables false
set_option maxRecDepth 100000
noncomputable section
namespace Go.Ev.X
open Go Go.Ev Go.Proofs
variable {E : Env} {f f' : Nat → Int} {t : Nat}
def vsP (t : Nat) (f : Nat → Int) (hd tl : Int) (f1 : Nat → Int) (u : Nat) (f2 : Nat → Int) (x : Nat) : Nat → Int := fun i => match i / 100 with
 | 0 => (t : Int)
 | 1 => fldT (getT f t) (regs f t) (i % 100)
 | 2 => if i % 100 = 0 then hd else tl
 | 4 => fldT (getT f1 u) (regs f1 u) (i % 100)
 | 6 => fldT (getT f2 x) (regs f2 x) (i % 100)
 | _ => 0
def AnyC (F : Nat) (args : List Value) (f : Nat → Int) : Prop := ∃ (k : Nat) (ret : Int) (f' : Nat → Int), 1 ≤ k ∧ k ≤ 200 ∧ WA f' ∧ MemC PP cP F args f (.int .i64 ret) f' k
variable {vs : Nat → Int}
structure IsP (vs : Nat → Int) (t : Nat) (f : Nat → Int) : Prop where
 one : vs 1 = (t : Int)
 fl : ∀ j, j < 30 → vs (100 + j) = fldT (getT f t) (regs f t) j
theorem isP_vs {f1 f2 : Nat → Int} {hd tl : Int} {u x : Nat} : IsP (vsP t f hd tl f1 u f2 x) t f := ⟨rfl, fun j hj => by
 have h1 : (100 + j) / 100 = 1 := by omega
 have h2 : (100 + j) % 100 = j := by omega
 unfold vsP
 rw [h1, h2]
 rfl⟩
theorem p_one (h : IsP vs t f) (hE : AgV E vs) (ρ : Rho) : (V.si .i64 t1).γ E ρ = .int .i64 (t : Nat) := vsi ((hE 1 (by omega) (by omega)).trans h.one)
theorem p_fl (h : IsP vs t f) (hE : AgV E vs) {j : Nat} (hj : j < 30) : E.i (100 + j) = fldT (getT f t) (regs f t) j := (hE (100 + j) (by omega) (by omega)).trans (h.fl j hj)
theorem p_tD (h : IsP vs t f) (hE : AgV E vs) (ρ : Rho) : (V.tup [tD 100, .i .i64 0]).γ E ρ = .tuple #[thV (getT f t) (regs f t), .int .i64 0] :=
 tupT (tA_ok (vsi (p_fl h hE (j := 0) (by omega))) (vsi (p_fl h hE (j := 1) (by omega))) (vsi (p_fl h hE (j := 2) (by omega))) (vsb (sbq (p_fl h hE (j := 3) (by omega)))) (vsi (p_fl h hE (j := 4) (by omega))) (vsi (p_fl h hE (j := 5) (by omega))) (vsi (p_fl h hE (j := 6) (by omega))) (vsi (p_fl h hE (j := 7) (by omega))) (vsb (sbq (p_fl h hE (j := 8) (by omega)))) (vsb (sbq (p_fl h hE (j := 9) (by omega)))) (vsi (p_fl h hE (j := 10) (by omega))) (vsi (p_fl h hE (j := 11) (by omega))) (vsi (p_fl h hE (j := 12) (by omega))) (vsi (p_fl h hE (j := 13) (by omega))) fun j hj => p_fl h hE hj)
theorem p_tN (h : IsP vs t f) (hE : AgV E vs) (ρ : Rho) {q pv nx : V} {bq : Bool} {ipv inx : Int} (hq : q.γ E ρ = .bool bq) (hp : pv.γ E ρ = .int .i64 ipv) (hn : nx.γ E ρ = .int .i64 inx) : (tN 100 q pv nx).γ E ρ = thV { getT f t with q := bq, pv := ipv, nx := inx } (regs f t) :=
 tA_ok4 (vsi (p_fl h hE (j := 0) (by omega))) (vsi (p_fl h hE (j := 1) (by omega))) (vsi (p_fl h hE (j := 2) (by omega))) hq hp hn (vsi (p_fl h hE (j := 6) (by omega))) (vsi (p_fl h hE (j := 7) (by omega))) (vsb (sbq (p_fl h hE (j := 8) (by omega)))) (vsb (sbq (p_fl h hE (j := 9) (by omega)))) (vsi (p_fl h hE (j := 10) (by omega))) (vsi (p_fl h hE (j := 11) (by omega))) (vsi (p_fl h hE (j := 12) (by omega))) (vsi (p_fl h hE (j := 13) (by omega))) fun j h1 h2 => (p_fl h hE h2).trans (by
  obtain ⟨i, rfl⟩ : ∃ i, j = i + 14 := ⟨j - 14, by omega⟩
  rfl)
theorem ref_u (ht : T16 t) (hw : WA f) {F : Nat} {fs : List (SB × Bool)} {n : Int} (hr : RightAt f t) (hrun : runU F [tdS t1 100] fs n = 0) (hfs : ∀ E : Env, (∀ j, j < 30 → E.i (100 + j) = fldT (getT f t) (regs f t) j) → FsOk E fs) : AnyC F [.int .i64 t] f :=
 ⟨20 + 0, n, f, by omega, by omega, hw, memC_ch hC0 (by decide) hrun rfl (vs := vsP t f 0 0 f 0 f 0) (Chain.cons (by omega) (thr_u ht hr) (fun E hE ρ => arg1 (p_one isP_vs hE ρ)) (fun E hE ρ => p_tD isP_vs hE ρ) (Chain.nil f)) (fun E hE => hfs E fun j hj => p_fl isP_vs hE hj) (fun E hE => trivial) (fun E hE ρ => arg1 (p_one (f := f) isP_vs hE ρ)) (fun E hE ρ => rfl)⟩
theorem wrong_u (ht : T16 t) (hw : WA f) {F : Nat} {n : Int} (hr : ¬ RightAt f t) (hrun : runU F [twS t1] [] n = 0) : AnyC F [.int .i64 t] f :=
 ⟨4 + 0, n, f, by omega, by omega, hw, memC_ch hC0 (by decide) hrun rfl (vs := vsP t f 0 0 f 0 f 0) (Chain.cons (by omega) (bad_u ht hw hr) (fun E hE ρ => arg1 (p_one (f := f) isP_vs hE ρ)) (fun E hE ρ => rfl) (Chain.nil f)) (fun E hE => trivial) (fun E hE => trivial) (fun E hE ρ => arg1 (p_one (f := f) isP_vs hE ρ)) (fun E hE ρ => rfl)⟩
theorem vs_4 {f1 f2 : Nat → Int} {hd tl : Int} {u x : Nat} : ∀ j, j < 30 → vsP t f hd tl f1 u f2 x (400 + j) = fldT (getT f1 u) (regs f1 u) j := fun j hj => by
 have h1 : (400 + j) / 100 = 4 := by omega
 have h2 : (400 + j) % 100 = j := by omega
 unfold vsP
 rw [h1, h2]
 rfl
theorem vs_6 {f1 f2 : Nat → Int} {hd tl : Int} {u x : Nat} : ∀ j, j < 30 → vsP t f hd tl f1 u f2 x (600 + j) = fldT (getT f2 x) (regs f2 x) j := fun j hj => by
 have h1 : (600 + j) / 100 = 6 := by omega
 have h2 : (600 + j) % 100 = j := by omega
 unfold vsP
 rw [h1, h2]
 rfl
theorem ends_lt (f : Nat → Int) (p : Nat) : (0 ≤ headOf f p ∧ headOf f p < 65536) ∧ 0 ≤ tailOf f p ∧ tailOf f p < 65536 := by
 unfold headOf tailOf
 omega
theorem t16_lt (ht : T16 t) : 0 ≤ (t : Int) ∧ (t : Int) < 65536 := by
 obtain ⟨i, hi, rfl⟩ := ht
 unfold t16
 omega
theorem push_u (ht : T16 t) (hw : WA f) (fr : Bool) : AnyC (fnU fr) [.int .i64 t] f := by
 have hrf := allB_ok refU_ok fr (b_mem fr)
 simp only [Bool.and_eq_true] at hrf
 have href : ∀ j, j < 4 → refU fr j = 0 := fun j hj => Nat.eq_of_beq_eq_true (rng_ok hrf.1 j hj)
 by_cases hr : RightAt f t
 rotate_left
 ·exact wrong_u ht hw hr (href 0 (by omega))
 have fq' : ∀ E : Env, (∀ j, j < 30 → E.i (100 + j) = fldT (getT f t) (regs f t) j) → (SB.cmp .eql (.v 103) (.lit 1)).den E = (getT f t).q := fun E h => sbq (h 3 (by omega))
 have fpv' : ∀ E : Env, (∀ j, j < 30 → E.i (100 + j) = fldT (getT f t) (regs f t) j) → SE.den E (.v 104) = (getT f t).pv := fun E h => h 4 (by omega)
 have fnx' : ∀ E : Env, (∀ j, j < 30 → E.i (100 + j) = fldT (getT f t) (regs f t) j) → SE.den E (.v 105) = (getT f t).nx := fun E h => h 5 (by omega)
 cases hq : (getT f t).q with
 | true => exact ref_u ht hw hr (href 1 (by omega)) fun E h => ⟨(fq' E h).trans hq, trivial⟩
 | false =>
 by_cases hp : (getT f t).pv = 0
 rotate_left
 ·exact ref_u ht hw hr (href 2 (by omega)) fun E h => ⟨(fq' E h).trans hq, f_ne (by rw [fpv' E h]; exact hp), trivial⟩
 by_cases hn : (getT f t).nx = 0
 rotate_left
 ·exact ref_u ht hw hr (href 3 (by omega)) fun E h => ⟨(fq' E h).trans hq, f_nen (by rw [fpv' E h, hp]; rfl), f_ne (by rw [fnx' E h]; exact hn), trivial⟩
 have hv := getT_right hr
 have htl := t16_lt ht
 obtain ⟨p, hpp⟩ : ∃ p : Nat, p = (getT f t).pr.toNat := ⟨_, rfl⟩
 have hp256 : p < 256 := by have := hv.pr; omega
 have hpe : (getT f t).pr = (p : Int) := by have := hv.pr; omega
 obtain ⟨k1, ⟨q1, u1⟩, c1⟩ := ends_p hp256 (hw (256 + p))
 obtain ⟨hh, htt⟩ := ends_lt f p
 have arg101 : ∀ {vs : Nat → Int} {E : Env}, IsP vs t f → AgV E vs → ∀ ρ, (V.si .i64 (.v 101)).γ E ρ = .int .i64 (p : Nat) := fun h hE ρ => vsi ((p_fl h hE (j := 1) (by omega)).trans hpe)
 by_cases h0 : headOf f p = 0
 ·-- nobody waits
  have hv1 : TV.Right { getT f t with q := true, pv := if fr then (getT f t).pv else 0, nx := if fr then 0 else (getT f t).nx } := ⟨hv.st, hv.pr, hv.sl, by show 0 ≤ (if fr = true then (getT f t).pv else 0) ∧ _; rw [hp]; simp, by show 0 ≤ (if fr = true then 0 else (getT f t).nx) ∧ _; rw [hn]; simp, hv.bl, hv.bd, hv.bo, hv.ha, hv.fk, hv.fa⟩
  obtain ⟨f1, hf1⟩ : ∃ f1, f1 = setT f t { getT f t with q := true, pv := if fr then (getT f t).pv else 0, nx := if fr then 0 else (getT f t).nx } := ⟨_, rfl⟩
  have hw1 : WA f1 := by rw [hf1]; exact wa_setT hw hv1
  obtain ⟨k3, ⟨q3, u3⟩, c3⟩ := setEnds_p (f := f1) (h := t) (l := t) hp256 htl htl (hw1 _) (hw1 _)
  have csth := sth_u (f := f) ht hv1
  rw [← hf1] at csth
  refine ⟨20 + (k1 + (20 + (k3 + 0))), 0, _, by omega, by omega, wa_setQ hw1 hp256 htl htl, memC_ch hC0 (by decide) (sh := shE fr) (fs := fsEm) (v := .i .i64 0) (ps := []) (Nat.eq_of_beq_eq_true hrf.2) rfl (vs := vsP t f (headOf f p) (tailOf f p) f 0 f 0)
   (Chain.cons (by omega) (thr_u ht hr) (fun E hE ρ => arg1 (p_one (f := f) isP_vs hE ρ)) (fun E hE ρ => p_tD isP_vs hE ρ) (Chain.cons q1 c1 (fun E hE ρ => arg1 (arg101 isP_vs hE ρ)) (fun E hE ρ => tup2 (vsi (hE 200 (by omega) (by omega))) (vsi (hE 201 (by omega) (by omega))))
    (Chain.cons (by omega) csth (fun E hE ρ => arg2 (p_one (f := f) isP_vs hE ρ) ?_) (fun E hE ρ => rfl) (Chain.cons q3 c3 (fun E hE ρ => arg3 (arg101 isP_vs hE ρ) (p_one (f := f) isP_vs hE ρ) (p_one (f := f) isP_vs hE ρ)) (fun E hE ρ => rfl) (Chain.nil _)))))
   (fun E hE => ⟨(fq' E fun j hj => p_fl isP_vs hE hj).trans hq, f_nen (by rw [fpv' E fun j hj => p_fl isP_vs hE hj, hp]; rfl), f_nen (by rw [fnx' E fun j hj => p_fl isP_vs hE hj, hn]; rfl), f_nen (by show E.i 200 = 0; rw [hE 200 (by omega) (by omega)]; exact h0), trivial⟩) (fun E hE => trivial) (fun E hE ρ => arg1 (p_one (f := f) isP_vs hE ρ)) (fun E hE ρ => rfl)⟩
  cases fr with
  | true => exact p_tN isP_vs hE ρ rfl (vsi (p_fl isP_vs hE (j := 4) (by omega))) rfl
  | false => exact p_tN isP_vs hE ρ rfl rfl (vsi (p_fl isP_vs hE (j := 5) (by omega)))
 ·-- some wait
  cases fr with
  | true =>
   have hv1 : TV.Right { getT f t with q := true, pv := (getT f t).pv, nx := headOf f p } := ⟨hv.st, hv.pr, hv.sl, hv.pv, hh, hv.bl, hv.bd, hv.bo, hv.ha, hv.fk, hv.fa⟩
   obtain ⟨f1, hf1⟩ : ∃ f1, f1 = setT f t { getT f t with q := true, pv := (getT f t).pv, nx := headOf f p } := ⟨_, rfl⟩
   have hw1 : WA f1 := by rw [hf1]; exact wa_setT hw hv1
   have csth := sth_u (f := f) ht hv1
   rw [← hf1] at csth
   obtain ⟨o, K, f2, ho, ho0, hK, hw2, _, hall⟩ := turn_ex hw1 (x := headOf f p) (val := t) hh htl false
   obtain ⟨k3, ⟨q3, u3⟩, c3⟩ := setEnds_p (f := f2) (h := t) (l := tailOf f p) hp256 htl htt (hw2 _) (hw2 _)
   have hrun : pushU true o = 0 := Nat.eq_of_beq_eq_true (allB_ok (allB_ok pushU_ok.1 true (b_mem _)) o (mem_rngF (by omega) (by omega)))
   obtain ⟨hch, hfo⟩ := hall (vsP t f (headOf f p) (tailOf f p) f1 (headOf f p).toNat f 0) 200 400 t1 (by omega) (by omega) rfl (fun E hE => (hE 1 (by omega) (by omega)).trans rfl) vs_4 (by omega) (by omega)
   refine ⟨20 + (k1 + (20 + (K + (k3 + 0)))), 0, _, by omega, by omega, wa_setQ hw2 hp256 htl htt, memC_ch hC0 (by decide) (sh := shM true o) (fs := fsM true o) (v := .i .i64 0) (ps := []) hrun rfl (vs := vsP t f (headOf f p) (tailOf f p) f1 (headOf f p).toNat f 0)
    (Chain.cons (by omega) (thr_u ht hr) (fun E hE ρ => arg1 (p_one (f := f) isP_vs hE ρ)) (fun E hE ρ => p_tD isP_vs hE ρ) (Chain.cons q1 c1 (fun E hE ρ => arg1 (arg101 isP_vs hE ρ)) (fun E hE ρ => tup2 (vsi (hE 200 (by omega) (by omega))) (vsi (hE 201 (by omega) (by omega))))
     (Chain.cons (by omega) csth (fun E hE ρ => arg2 (p_one (f := f) isP_vs hE ρ) (p_tN isP_vs hE ρ rfl (vsi (p_fl isP_vs hE (j := 4) (by omega))) (vsi (hE 200 (by omega) (by omega))))) (fun E hE ρ => rfl) (chain_app hch (Chain.cons q3 c3 (fun E hE ρ => arg3 (arg101 isP_vs hE ρ) (p_one (f := f) isP_vs hE ρ) (vsi (hE 201 (by omega) (by omega)))) (fun E hE ρ => rfl) (Chain.nil _))))))
    (fun E hE => ⟨(fq' E fun j hj => p_fl isP_vs hE hj).trans hq, f_nen (by rw [fpv' E fun j hj => p_fl isP_vs hE hj, hp]; rfl), f_nen (by rw [fnx' E fun j hj => p_fl isP_vs hE hj, hn]; rfl), f_ne (by show E.i 200 ≠ 0; rw [hE 200 (by omega) (by omega)]; exact h0), f_eqn (by show E.i 200 ≠ 0; rw [hE 200 (by omega) (by omega)]; exact h0), hfo E hE⟩) (fun E hE => trivial) (fun E hE ρ => arg1 (p_one (f := f) isP_vs hE ρ)) (fun E hE ρ => rfl)⟩
  | false =>
   have hv1 : TV.Right { getT f t with q := true, pv := tailOf f p, nx := (getT f t).nx } := ⟨hv.st, hv.pr, hv.sl, htt, hv.nx, hv.bl, hv.bd, hv.bo, hv.ha, hv.fk, hv.fa⟩
   obtain ⟨f1, hf1⟩ : ∃ f1, f1 = setT f t { getT f t with q := true, pv := tailOf f p, nx := (getT f t).nx } := ⟨_, rfl⟩
   have hw1 : WA f1 := by rw [hf1]; exact wa_setT hw hv1
   have csth := sth_u (f := f) ht hv1
   rw [← hf1] at csth
   obtain ⟨o, K, f2, ho, ho0, hK, hw2, _, hall⟩ := turn_ex hw1 (x := tailOf f p) (val := t) htt htl true
   obtain ⟨k3, ⟨q3, u3⟩, c3⟩ := setEnds_p (f := f2) (h := headOf f p) (l := t) hp256 hh htl (hw2 _) (hw2 _)
   have hrun : pushU false o = 0 := by
    by_cases ho0 : o = 0
    ·rw [ho0]; exact pushU_ok.2
    ·exact Nat.eq_of_beq_eq_true (allB_ok (allB_ok pushU_ok.1 false (b_mem _)) o (mem_rngF (by omega) (by omega)))
   obtain ⟨hch, hfo⟩ := hall (vsP t f (headOf f p) (tailOf f p) f1 (tailOf f p).toNat f 0) 201 400 t1 (by omega) (by omega) rfl (fun E hE => (hE 1 (by omega) (by omega)).trans rfl) vs_4 (by omega) (by omega)
   refine ⟨20 + (k1 + (20 + (K + (k3 + 0)))), 0, _, by omega, by omega, wa_setQ hw2 hp256 hh htl, memC_ch hC0 (by decide) (sh := shM false o) (fs := fsM false o) (v := .i .i64 0) (ps := []) hrun rfl (vs := vsP t f (headOf f p) (tailOf f p) f1 (tailOf f p).toNat f 0)
    (Chain.cons (by omega) (thr_u ht hr) (fun E hE ρ => arg1 (p_one (f := f) isP_vs hE ρ)) (fun E hE ρ => p_tD isP_vs hE ρ) (Chain.cons q1 c1 (fun E hE ρ => arg1 (arg101 isP_vs hE ρ)) (fun E hE ρ => tup2 (vsi (hE 200 (by omega) (by omega))) (vsi (hE 201 (by omega) (by omega))))
     (Chain.cons (by omega) csth (fun E hE ρ => arg2 (p_one (f := f) isP_vs hE ρ) (p_tN isP_vs hE ρ rfl (vsi (hE 201 (by omega) (by omega))) (vsi (p_fl isP_vs hE (j := 5) (by omega))))) (fun E hE ρ => rfl) (chain_app hch (Chain.cons q3 c3 (fun E hE ρ => arg3 (arg101 isP_vs hE ρ) (vsi (hE 200 (by omega) (by omega))) (p_one (f := f) isP_vs hE ρ)) (fun E hE ρ => rfl) (Chain.nil _))))))
    (fun E hE => ⟨(fq' E fun j hj => p_fl isP_vs hE hj).trans hq, f_nen (by rw [fpv' E fun j hj => p_fl isP_vs hE hj, hp]; rfl), f_nen (by rw [fnx' E fun j hj => p_fl isP_vs hE hj, hn]; rfl), f_ne (by show E.i 200 ≠ 0; rw [hE 200 (by omega) (by omega)]; exact h0), f_eqn (by show E.i 200 ≠ 0; rw [hE 200 (by omega) (by omega)]; exact h0), hfo E hE⟩) (fun E hE => trivial) (fun E hE ρ => arg1 (p_one (f := f) isP_vs hE ρ)) (fun E hE ρ => rfl)⟩
end Go.Ev.X
end
