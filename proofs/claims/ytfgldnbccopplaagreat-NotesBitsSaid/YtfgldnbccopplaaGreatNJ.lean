/-
  NotesBits: what holds at the loop's head; the truths.
-/
import Derived.Test.YtfgldnbccopplaaGreatNH
import Derived.Test.YtfgldnbccopplaaGreatE4
set_option linter.unusedSimpArgs false
set_option linter.unusedVariables false
set_option maxRecDepth 100000
noncomputable section
namespace Go.Ev.X
open Go Go.Ev
variable {E : Env}
theorem arS_andNot (x y : Nat) (hx : x < 18446744073709551616) (hy : y < 18446744073709551616) : arS .andNot .u64 (x : Int) (y : Int) = ((Nat.xor x (Nat.land x y) : Nat) : Int) := by
  have h1 : Nat.blt x (topOf .u64) = true := by simp [topOf]; omega
  have h2 : Nat.blt y (topOf .u64) = true := by simp [topOf]; omega
  show bitF .u64 (fun a b => Nat.xor a (Nat.land a b)) (fun a b => a &&& ~~~b) (.ofNat x) (.ofNat y) = _
  show bc (Nat.blt x (topOf .u64)) (bc (Nat.blt y (topOf .u64)) (Int.ofNat (Nat.xor x (Nat.land x y))) _) _ = _
  rw [h1, h2]; rfl
theorem den_low {e : SE} {x m : Int} (k : Nat) (hm : m = 2 ^ k - 1) (hk : k < 64) (he : e.den E = x) (h0 : 0 ≤ x) (h1 : x < 18446744073709551616) : SE.den E (.op .and .u64 e (.lit m)) = x % 2 ^ k := by
  show arS .and .u64 (e.den E) m = _
  rw [he, and_mask k hm hk h0 h1]
theorem den_shr {e : SE} {x : Int} (n : Nat) (hn : n ≤ 64) (he : e.den E = x) (h0 : 0 ≤ x) : SE.den E (.op .shr .u64 e (.lit (n : Int))) = x / 2 ^ n := by
  show arS .shr .u64 (e.den E) (n : Int) = _
  rw [he, shr_val n hn h0]
theorem den_shl {e : SE} {x : Int} (n : Nat) (hn : n ≤ 64) (he : e.den E = x) (h0 : 0 ≤ x) (h1 : x * 2 ^ n < 18446744073709551616) : SE.den E (.op .shl .u64 e (.lit (n : Int))) = x * 2 ^ n := by
  show arS .shl .u64 (e.den E) (n : Int) = _
  rw [he, shl_val n hn h0 h1]
theorem den_cvi {e : SE} {x : Int} (he : e.den E = x) (h0 : 0 ≤ x) (h1 : x ≤ 9223372036854775807) : SE.den E (.cv .i64 e) = x := by
  show IntKind.i64.wrap (e.den E) = x
  rw [he, IntKind.wrap_i64]; omega
theorem den_cvu {e : SE} {x : Int} (he : e.den E = x) (h0 : 0 ≤ x) (h1 : x < 18446744073709551616) : SE.den E (.cv .u64 e) = x := by
  show IntKind.u64.wrap (e.den E) = x
  rw [he, IntKind.wrap_u64]; omega
theorem den_or {e f : SE} {x y : Int} (k : Nat) (m : Int) (hx : x = m * 2 ^ k) (hm : 0 ≤ m) (he : e.den E = x) (hf : f.den E = y) (h0 : 0 ≤ y) (h1 : y < 2 ^ k) (hb : x < 18446744073709551616) (hk : k ≤ 64) : SE.den E (.op .or .u64 e f) = x + y := by
  show arS .or .u64 (e.den E) (f.den E) = _
  rw [he, hf, or_add k m hx hm h0 h1 hb hk]
theorem sb_eql {e : SE} {x n : Int} (he : e.den E = x) (h : x = n) : (SB.cmp .eql e (.lit n)).den E = true := by
  show (cmpI .eql (e.den E) n).getD false = true
  rw [he, h]; simp [cmpI, iEq_eq]
theorem sb_neq {e f : SE} {x : Int} (he : e.den E = x) (hf : f.den E = x) : (SB.cmp .neq e f).den E = false := by
  show (cmpI .neq (e.den E) (f.den E)).getD false = false
  rw [he, hf]; simp [cmpI, iEq_eq]
theorem arS_ori (x y : Nat) (hx : x < 9223372036854775808) (hy : y < 9223372036854775808) : arS .or .i64 (x : Int) (y : Int) = ((Nat.lor x y : Nat) : Int) := by
  have h1 : Nat.blt x (topOf .i64) = true := by simp [topOf]; omega
  have h2 : Nat.blt y (topOf .i64) = true := by simp [topOf]; omega
  show bitF .i64 Nat.lor (fun a b => a ||| b) (.ofNat x) (.ofNat y) = _
  show bc (Nat.blt x (topOf .i64)) (bc (Nat.blt y (topOf .i64)) (Int.ofNat (Nat.lor x y)) _) _ = _
  rw [h1, h2]; rfl
theorem den_ori {e f : SE} {x y : Int} (he : e.den E = x) (hf : f.den E = y) (hx : 0 ≤ x ∧ x < 268435456) (hy : 0 ≤ y ∧ y < 268435456) : ∃ z, SE.den E (.op .or .i64 e f) = z ∧ x ≤ z ∧ y ≤ z ∧ z < 268435456 := by
  obtain ⟨a, rfl⟩ := Int.eq_ofNat_of_zero_le hx.1
  obtain ⟨b, rfl⟩ := Int.eq_ofNat_of_zero_le hy.1
  have h1 : a ||| b < 2 ^ 28 := Nat.or_lt_two_pow (by omega) (by omega)
  have h2 : a ≤ a ||| b := Nat.left_le_or
  have h3 : b ≤ a ||| b := Nat.right_le_or
  refine ⟨((a ||| b : Nat) : Int), ?_, by omega, by omega, by omega⟩
  show arS .or .i64 (e.den E) (f.den E) = _
  rw [he, hf, arS_ori a b (by omega) (by omega)]
  rfl
theorem den_bd0 (h0 : 0 ≤ E.i 3) : SE.den E bd0 = E.i 3 % 268435456 := by
  show (E.i 3).tmod 268435456 = _
  rw [Int.tmod_eq_emod_of_nonneg h0]
theorem den_bd1 (h0 : -9223372036854775808 ≤ E.i 3) (h1 : E.i 3 < 0) : SE.den E bd1 = (-(E.i 3 + 1)) % 268435456 := by
  show (wrapF .i64 (0 - wrapF .i64 (E.i 3 + 1))).tmod 268435456 = _
  rw [wrapF_eq, wrapF_eq, IntKind.wrap_i64, IntKind.wrap_i64, Int.tmod_eq_emod_of_nonneg (by omega)]
  omega
theorem low_none (n : Nat) (h : n < 268435456) : Nat.land n 17591917608960 = 0 := by
  show n &&& 17591917608960 = 0
  apply Nat.eq_of_testBit_eq
  intro i
  rw [Nat.testBit_and, Nat.zero_testBit]
  by_cases h28 : 28 ≤ i
  · have : Nat.testBit n i = false := Nat.testBit_lt_two_pow (Nat.lt_of_lt_of_le (show n < 2 ^ 28 by omega) (Nat.pow_le_pow_right (by decide) h28))
    simp [this]
  · have : ∀ j, j < 28 → Nat.testBit 17591917608960 j = false := by decide
    simp [this i (by omega)]
theorem low_all (n : Nat) (h : n < 268435456) : Nat.land n 268435455 = n := by
  have : Nat.land n (2 ^ 28 - 1) = n % 2 ^ 28 := Nat.and_two_pow_sub_one_eq_mod n 28
  rw [show (268435455 : Nat) = 2 ^ 28 - 1 from rfl, this]
  omega
theorem sb_gtr {e : SE} {x n : Int} (he : e.den E = x) (h : n < x) : (SB.cmp .gtr e (.lit n)).den E = true := by
  show (cmpI .gtr (e.den E) n).getD false = true
  rw [he]; simp [cmpI, iLt_eq, h]
theorem sb_lss {e : SE} {x n : Int} (he : e.den E = x) (h : ¬ x < n) : (SB.cmp .lss e (.lit n)).den E = false := by
  show (cmpI .lss (e.den E) n).getD false = false
  rw [he]; simp [cmpI, iLt_eq]; omega
theorem den_sh0 {e : SE} {n : Int} (he : e.den E = n) (h0 : 0 ≤ n) (h1 : n < 268435456) : SE.den E (.op .shl .u64 (.cv .u64 e) (.lit 0)) = n := by
  have := den_shl (E := E) 0 (by decide) (den_cvu he h0 (by omega)) h0 (by simp; omega)
  rw [show n * 2 ^ 0 = n by simp] at this
  exact this
theorem fX_ok {x : SE} {n : Int} (hx : x.den E = n) (h0 : 0 < n) (h1 : n < 268435456) : ∀ c ∈ fX x, SB.den E c.1 = c.2 := by
  unfold fX
  simp only [List.mem_cons, List.not_mem_nil, or_false, forall_eq_or_imp, forall_eq]
  have hs := den_sh0 hx (by omega) h1
  refine ⟨sb_lss hx (by omega), ?_, ?_, sb_gtr hx h0⟩
  · refine sb_neq (x := n) ?_ (den_cvu hx (by omega) (by omega))
    have := den_shr (E := E) 0 (by decide) hs (by omega)
    rw [show n / 2 ^ 0 = n by simp] at this
    exact this
  · obtain ⟨a, rfl⟩ := Int.eq_ofNat_of_zero_le (by omega : 0 ≤ n)
    refine sb_eql (x := 0) ?_ rfl
    show arS .andNot .u64 (SE.den E _) ((268435455 : Nat) : Int) = 0
    rw [hs, arS_andNot a _ (by omega) (by omega), low_all a (by omega)]
    simp
theorem den_wdB (h0 : 0 ≤ E.i 4) (h1 : E.i 4 < 268435456) : SE.den E wdB = E.i 4 := by
  have hs := den_sh0 (E := E) (e := .v 4) rfl h0 h1
  obtain ⟨a, ha⟩ := Int.eq_ofNat_of_zero_le h0
  rw [show SE.den E (.v 4) = E.i 4 from rfl, ha] at hs
  rw [ha] at h1 ⊢
  show arS .or .u64 (arS .andNot .u64 (arS .or .u64 ((0 : Nat) : Int) (SE.den E _)) ((17591917608960 : Nat) : Int)) ((0 : Nat) : Int) = _
  rw [hs, arS_or 0 a (by omega) (by omega), show Nat.lor 0 a = a from Nat.zero_or a, arS_andNot a _ (by omega) (by omega), low_none a (by omega), show Nat.xor a 0 = a from Nat.xor_zero a, arS_or a 0 (by omega) (by omega), show Nat.lor a 0 = a from Nat.or_zero a]
theorem fW_all (h0 : 0 < E.i 4) (h1 : E.i 4 < 268435456) : ∀ c ∈ fW, SB.den E c.1 = c.2 := by
  unfold fW
  simp only [List.mem_cons, List.not_mem_nil, or_false, forall_eq_or_imp, forall_eq]
  have hw := den_wdB (E := E) (by omega) h1
  obtain ⟨a, ha⟩ := Int.eq_ofNat_of_zero_le (by omega : 0 ≤ E.i 4)
  refine ⟨?_, ?_, ?_, sb_gtr rfl h0⟩
  · refine sb_eql (x := 0) ?_ rfl
    show arS .and .u64 (SE.den E wdB) ((17591917608960 : Nat) : Int) = 0
    rw [hw, ha, arS_and a _ (by omega) (by omega), low_none a (by omega)]
    rfl
  · refine sb_eql (den_shr 44 (by decide) hw (by omega)) ?_
    simp only [show (2 : Int) ^ 44 = 17592186044416 from rfl]
    omega
  · have e1 := den_low (E := E) (m := 268435455) 28 rfl (by decide) hw (by omega) (by omega)
    have e2 : SE.den E (.op .shr .u64 (.op .and .u64 wdB (.lit 268435455)) (.lit 0)) = E.i 4 % 2 ^ 28 / 2 ^ 0 := den_shr (E := E) 0 (by decide) e1 (by simp only [show (2 : Int) ^ 28 = 268435456 from rfl]; omega)
    have e3 : E.i 4 % 2 ^ 28 / 2 ^ 0 = E.i 4 := by simp only [show (2 : Int) ^ 28 = 268435456 from rfl, show (2 : Int) ^ 0 = 1 from rfl]; omega
    rw [e3] at e2
    have := sb_neq (E := E) (f := .v 4) (den_cvi e2 (by omega) (by omega)) rfl
    show (!SB.den E (.cmp .neq _ _)) = true
    rw [this]; rfl
theorem fa_all {l : List (SB × Bool)} (h : ∀ c ∈ l, SB.den E c.1 = c.2) : FaOk E ⟨l, []⟩ := ⟨fun c b hm => h (c, b) hm, fun _ _ _ hm => by cases hm⟩
theorem all_app {l m : List (SB × Bool)} (h1 : ∀ c ∈ l, SB.den E c.1 = c.2) (h2 : ∀ c ∈ m, SB.den E c.1 = c.2) : ∀ c ∈ l ++ m, SB.den E c.1 = c.2 := by
  intro c hc
  rcases List.mem_append.1 hc with h | h
  · exact h1 c h
  · exact h2 c h
theorem fGo_all {s : Bool} (h1 : E.i 2 < E.i 1) (h2 : E.i 2 < 50) (h3 : decide (E.i 3 < 0) = s) : ∀ c ∈ fGo s, SB.den E c.1 = c.2 := by
  unfold fGo
  simp only [List.mem_cons, List.not_mem_nil, or_false, forall_eq_or_imp, forall_eq]
  refine ⟨?_, ?_, ?_⟩
  · show iLt (E.i 2) (E.i 1) = true
    rw [iLt_eq]; exact decide_eq_true h1
  · show iLt (E.i 2) 50 = true
    rw [iLt_eq]; exact decide_eq_true h2
  · show iLt (E.i 3) 0 = s
    rw [iLt_eq]; exact h3
theorem fE0_all (h : ¬ E.i 2 < E.i 1) : ∀ c ∈ fE0, SB.den E c.1 = c.2 := by
  unfold fE0
  simp only [List.mem_cons, List.not_mem_nil, or_false, forall_eq]
  show iLt (E.i 2) (E.i 1) = false
  rw [iLt_eq]; exact decide_eq_false h
theorem fE1_all (h1 : E.i 2 < E.i 1) (h2 : ¬ E.i 2 < 50) : ∀ c ∈ fE1, SB.den E c.1 = c.2 := by
  unfold fE1
  simp only [List.mem_cons, List.not_mem_nil, or_false, forall_eq_or_imp, forall_eq]
  refine ⟨?_, ?_⟩
  · show iLt (E.i 2) (E.i 1) = true
    rw [iLt_eq]; exact decide_eq_true h1
  · show iLt (E.i 2) 50 = false
    rw [iLt_eq]; exact decide_eq_false h2
/-- the numbers that came in -/
def RowD (r : Row) (D : Nat → Int) : Prop := ∀ i, i < r.len → r.cs[r.off + i]? = some (.int .i64 (D i)) ∧ -9223372036854775808 ≤ D i ∧ D i ≤ 9223372036854775807
/-- E.i 2 of the numbers have been signalled; there are m rounds left at most -/
def InvB (m j : Nat) (E : Env) : Prop := E.i 1 = (E.s 0).len ∧ (∃ D, RowD (E.s 0) D) ∧ 0 ≤ E.i 2 ∧ (m : Int) + E.i 2 = 50 ∧
  (j % 2 = 0 → E.i 2 < E.i 1 ∧ E.i 2 < 50 ∧ -9223372036854775808 ≤ E.i 3 ∧ E.i 3 ≤ 9223372036854775807) ∧ (j % 2 = 1 → ¬ (E.i 2 < E.i 1 ∧ E.i 2 < 50)) ∧ (4 ≤ j % 6 → 0 < E.i 4 ∧ E.i 4 < 268435456)
def rowK (h : H) : Bool := hc h (fun _ _ t => ptAll (fun _ o => match o with
  | .row q z N I l => Nat.beq q 0 && Nat.beq z 1 && SE.beq I (.v 2) && vlBeq l [.si .i64 (.v 3)]
  | _ => true) (fun p => p) t)
def rowU (h : H) : Bool := hc h (fun _ _ t => ptAll (fun _ o => match o with
  | .row q z N I l => vlBeq l []
  | _ => true) (fun p => p) t)
theorem rowK_ok {h : H} (hr : rowK h = true) (h2 : E.i 2 = (E.s 0).idx) (hl : (E.s 0).idx < (E.s 0).len) (hv : (E.s 0).cs[(E.s 0).off + (E.s 0).idx]? = some (.int .i64 (E.i 3))) : ∀ p o, h.t.get p = some o → RowEl E o := by
  intro p o hp
  unfold rowK at hr
  rw [hc_eq] at hr
  have := ptAll_ok _ _ p o hr hp
  cases o with
  | row q z N I l =>
    simp only [Bool.and_eq_true, Nat.beq_eq] at this
    obtain ⟨⟨⟨rfl, rfl⟩, hI⟩, hl'⟩ := this
    have hI := SE.beq_eq hI
    have hl' := vlBeq_ok hl'
    subst hI; subst hl'
    intro _
    refine ⟨h2, hl, rfl, fun ρ i hi => ?_⟩
    have : i = 0 := by simpa using hi
    subst this
    rw [Nat.mul_one, Nat.add_zero, hv]
    rfl
  | _ => trivial
theorem rowU_ok {h : H} (hr : rowU h = true) : ∀ p o, h.t.get p = some o → RowEl E o := by
  intro p o hp
  unfold rowU at hr
  rw [hc_eq] at hr
  have := ptAll_ok _ _ p o hr hp
  cases o with
  | row q z N I l => exact fun hne => absurd (vlBeq_ok this) hne
  | _ => trivial
theorem rows_all : (List.range 12).all (fun j => if j % 2 = 0 then rowK (stT j).h else rowU (stT j).h) = true := by kernel_rfl
theorem rows_k {j : Nat} (hj : j < 12) (h2 : j % 2 = 0) : rowK (stT j).h = true := by
  have := List.all_eq_true.1 rows_all j (by simpa using hj)
  rw [if_pos h2] at this
  exact this
theorem rows_u {j : Nat} (hj : j < 12) (h2 : j % 2 = 1) : rowU (stT j).h = true := by
  have := List.all_eq_true.1 rows_all j (by simpa using hj)
  rw [if_neg (by omega)] at this
  exact this
/-- the symbols told anew, the next number with them -/
def nxE (σ : Sg) (E : Env) (D : Nat → Int) (x : Int) : Env := ⟨fun i => if i = 3 then D x.toNat else match σ i with
  | some s => s.den E
  | none => 0, E.b, fun q => { E.s q with idx := x.toNat }⟩
theorem nxE_tr {σ : Sg} (h3 : σ 3 = none) (E : Env) (D : Nat → Int) (x : Int) : TrE σ E (nxE σ E D x) := by
  refine ⟨fun i s h => ?_, rfl, fun q => ⟨rfl, rfl, rfl, rfl, rfl, rfl, rfl, rfl⟩⟩
  by_cases hi : i = 3
  · subst hi; rw [h3] at h; cases h
  · show (if i = 3 then _ else _) = _
    rw [if_neg hi, h]
theorem leadB {σ : Sg} {m j : Nat} {D : Nat → Int} {s2 : SE} {x : Int} (h1 : σ 1 = some (.v 1)) (h3 : σ 3 = none) (h2 : σ 2 = some s2) (hx : s2.den E = x) (hx0 : 0 ≤ x) (hx1 : x ≤ 50) (hD : RowD (E.s 0) D) (hlen : E.i 1 = (E.s 0).len) (hm : 50 - x < m) (hj : j < 12) (hj2 : j % 2 = 0)
    (h4 : 4 ≤ j % 6 → ∃ s4, σ 4 = some s4 ∧ 0 < s4.den E ∧ s4.den E < 268435456) : Leads stT InvB E [(j, σ), (j + 1, σ)] m := by
  intro _
  have e1 : (nxE σ E D x).i 1 = E.i 1 := by
    have e : (nxE σ E D x).i 1 = (match σ 1 with | some s => s.den E | none => 0) := rfl
    rw [e, h1]; rfl
  have e2 : (nxE σ E D x).i 2 = x := by
    have e : (nxE σ E D x).i 2 = (match σ 2 with | some s => s.den E | none => 0) := rfl
    rw [e, h2]; exact hx
  have e3 : (nxE σ E D x).i 3 = D x.toNat := rfl
  have e4 : 4 ≤ j % 6 → 0 < (nxE σ E D x).i 4 ∧ (nxE σ E D x).i 4 < 268435456 := by
    intro h
    obtain ⟨s4, hs, h5⟩ := h4 h
    have e : (nxE σ E D x).i 4 = (match σ 4 with | some s => s.den E | none => 0) := rfl
    rw [e, hs]; exact h5
  have hD' : RowD ((nxE σ E D x).s 0) D := hD
  have hl' : (nxE σ E D x).i 1 = ((nxE σ E D x).s 0).len := e1.trans hlen
  have ed : ((nxE σ E D x).s 0).idx = x.toNat := rfl
  have el : ((nxE σ E D x).s 0).len = (E.s 0).len := rfl
  by_cases hk : x < (E.s 0).len ∧ x < 50
  · have hd := hD x.toNat (by omega)
    refine ⟨j, σ, (50 - x).toNat, nxE σ E D x, by simp, by omega, ⟨hl', ⟨D, hD'⟩, by rw [e2]; exact hx0, by rw [e2]; omega, fun _ => ⟨by rw [e2, hl', el]; exact hk.1, by rw [e2]; exact hk.2, by rw [e3]; exact hd.2⟩, fun h => by omega, e4⟩, nxE_tr h3 E D x, rowK_ok (rows_k hj hj2) (by rw [e2, ed]; omega) (by rw [ed, el]; omega) ?_⟩
    rw [e3]; exact hd.1
  · refine ⟨j + 1, σ, (50 - x).toNat, nxE σ E D x, by simp, by omega, ⟨hl', ⟨D, hD'⟩, by rw [e2]; exact hx0, by rw [e2]; omega, fun h => by omega, fun _ h => hk ⟨by rw [e2, hl', el] at h; exact h.1, by rw [e2] at h; exact h.2⟩, fun h => e4 (by omega)⟩, nxE_tr h3 E D x, rowU_ok (rows_u (by omega) (by omega))⟩
theorem den_nx (h0 : 0 ≤ E.i 2) (h1 : E.i 2 < 50) : SE.den E (.op .add .i64 (.v 2) (.lit 1)) = E.i 2 + 1 := by
  show wrapF .i64 (E.i 2 + 1) = _
  rw [wrapF_eq, IntKind.wrap_i64]; omega
theorem bd_cases (h0 : -9223372036854775808 ≤ E.i 3) : (decide (E.i 3 < 0) = false ∧ 0 ≤ SE.den E bd0 ∧ SE.den E bd0 < 268435456) ∨ (decide (E.i 3 < 0) = true ∧ 0 ≤ SE.den E bd1 ∧ SE.den E bd1 < 268435456) := by
  by_cases h : E.i 3 < 0
  · right
    rw [den_bd1 h0 h]
    exact ⟨decide_eq_true h, by omega, by omega⟩
  · left
    rw [den_bd0 (by omega)]
    exact ⟨decide_eq_false h, by omega, by omega⟩
theorem zero_all {b : SE} (h : b.den E = 0) : ∀ c ∈ [((.cmp .eql b (.lit 0) : SB), true)], SB.den E c.1 = c.2 := by
  simp only [List.mem_cons, List.not_mem_nil, or_false, forall_eq]
  exact sb_eql h rfl
end Go.Ev.X
end
