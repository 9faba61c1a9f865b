/-
  IpcCalls: the truths of its cases hold.
-/
import Derived.Test.YtapeacnagpphjaaGreatNH
import Derived.Test.YtapeacnagpphjaaGreatE4
set_option linter.unusedSimpArgs false
set_option linter.unusedVariables false
set_option maxRecDepth 100000
noncomputable section
namespace Go.Ev.X
open Go Go.Ev
variable {E : Env}
theorem xor240 (a : Nat) : Nat.xor a (Nat.land a 240) = a / 256 * 256 + a % 16 := by
  have e : a / 256 * 256 + a % 16 = (a / 256) <<< 8 ||| a % 16 := by
    rw [← Nat.shiftLeft_add_eq_or_of_lt (by omega : a % 16 < 2 ^ 8), Nat.shiftLeft_eq]
  rw [e]
  show a ^^^ (a &&& 240) = _
  apply Nat.eq_of_testBit_eq
  intro i
  rw [Nat.testBit_xor, Nat.testBit_and, Nat.testBit_or, Nat.testBit_shiftLeft, show a % 16 = a % 2 ^ 4 from rfl, Nat.testBit_mod_two_pow, show a / 256 = a / 2 ^ 8 from rfl, Nat.testBit_div_two_pow]
  by_cases h8 : 8 ≤ i
  · have : Nat.testBit 240 i = false := Nat.testBit_lt_two_pow (Nat.lt_of_lt_of_le (by decide : 240 < 2 ^ 8) (Nat.pow_le_pow_right (by decide) h8))
    rw [this, show i - 8 + 8 = i by omega]
    simp [h8, show ¬ i < 4 by omega]
  · have h8' : i < 8 := by omega
    by_cases h4 : i < 4
    · have : Nat.testBit 240 i = false := by
        have : ∀ j, j < 4 → Nat.testBit 240 j = false := by decide
        exact this i h4
      rw [this]
      simp [h8, h4]
    · have : Nat.testBit 240 i = true := by
        have : ∀ j, j < 8 → ¬ j < 4 → Nat.testBit 240 j = true := by decide
        exact this i h8' h4
      rw [this]
      simp [h8, h4]
theorem arS_andNot (x y : Nat) (hx : x < 18446744073709551616) (hy : y < 18446744073709551616) : arS .andNot .u64 (x : Int) (y : Int) = ((Nat.xor x (Nat.land x y) : Nat) : Int) := by
  have h1 : Nat.blt x (topOf .u64) = true := by simp [topOf]; omega
  have h2 : Nat.blt y (topOf .u64) = true := by simp [topOf]; omega
  show bitF .u64 (fun a b => Nat.xor a (Nat.land a b)) (fun a b => a &&& ~~~b) (.ofNat x) (.ofNat y) = _
  show bc (Nat.blt x (topOf .u64)) (bc (Nat.blt y (topOf .u64)) (Int.ofNat (Nat.xor x (Nat.land x y))) _) _ = _
  rw [h1, h2]; rfl
theorem den_an240 {e : SE} {x : Int} (he : e.den E = x) (h0 : 0 ≤ x) (h1 : x < 18446744073709551616) : SE.den E (.op .andNot .u64 e (.lit 240)) = x / 256 * 256 + x % 16 := by
  show arS .andNot .u64 (e.den E) ((240 : Nat) : Int) = _
  rw [he]
  obtain ⟨n, rfl⟩ := Int.eq_ofNat_of_zero_le h0
  rw [arS_andNot n 240 (by omega) (by omega), xor240]
  omega
theorem den_low {e : SE} {x m : Int} (k : Nat) (hm : m = 2 ^ k - 1) (hk : k < 64) (he : e.den E = x) (h0 : 0 ≤ x) (h1 : x < 18446744073709551616) : SE.den E (.op .and .u64 e (.lit m)) = x % 2 ^ k := by
  show arS .and .u64 (e.den E) m = _
  rw [he, and_mask k hm hk h0 h1]
theorem den_shr {e : SE} {x : Int} (n : Nat) (hn : n ≤ 64) (he : e.den E = x) (h0 : 0 ≤ x) : SE.den E (.op .shr .u64 e (.lit (n : Int))) = x / 2 ^ n := by
  show arS .shr .u64 (e.den E) (n : Int) = _
  rw [he, shr_val n hn h0]
theorem den_shl {e : SE} {x : Int} (n : Nat) (hn : n ≤ 64) (he : e.den E = x) (h0 : 0 ≤ x) (h1 : x * 2 ^ n < 18446744073709551616) : SE.den E (.op .shl .u64 e (.lit (n : Int))) = x * 2 ^ n := by
  show arS .shl .u64 (e.den E) (n : Int) = _
  rw [he, shl_val n hn h0 h1]
theorem den_cvi {e : SE} {x : Int} (he : e.den E = x) (h0 : 0 ≤ x) (h1 : x ≤ 9223372036854775807) : SE.den E (.cv .i64 e) = x := by
  show IntKind.i64.wrap (e.den E) = x
  rw [he, IntKind.wrap_i64]; omega
theorem den_cvu {e : SE} {x : Int} (he : e.den E = x) (h0 : 0 ≤ x) (h1 : x < 18446744073709551616) : SE.den E (.cv .u64 e) = x := by
  show IntKind.u64.wrap (e.den E) = x
  rw [he, IntKind.wrap_u64]; omega
theorem den_or {e f : SE} {x y : Int} (k : Nat) (m : Int) (hx : x = m * 2 ^ k) (hm : 0 ≤ m) (he : e.den E = x) (hf : f.den E = y) (h0 : 0 ≤ y) (h1 : y < 2 ^ k) (hb : x < 18446744073709551616) (hk : k ≤ 64) : SE.den E (.op .or .u64 e f) = x + y := by
  show arS .or .u64 (e.den E) (f.den E) = _
  rw [he, hf, or_add k m hx hm h0 h1 hb hk]
theorem sb_eql {e : SE} {x n : Int} (he : e.den E = x) (h : x = n) : (SB.cmp .eql e (.lit n)).den E = true := by
  show (cmpI .eql (e.den E) n).getD false = true
  rw [he, h]; simp [cmpI, iEq_eq]
theorem sb_neq {e f : SE} {x : Int} (he : e.den E = x) (hf : f.den E = x) : (SB.cmp .neq e f).den E = false := by
  show (cmpI .neq (e.den E) (f.den E)).getD false = false
  rw [he, hf]; simp [cmpI, iEq_eq]
/-- what a word says, its bits 4 to 7 cleared -/
def wA (x : Int) : Int := x / 256 * 256 + x % 16
section
variable {v : Nat} (h0 : 0 ≤ E.i v) (h1 : E.i v ≤ 18446744073709551615)
theorem w_an : SE.den E (.v v) = E.i v := rfl
theorem w_clear (h0 : 0 ≤ E.i v) (h1 : E.i v ≤ 18446744073709551615) : SE.den E (.op .andNot .u64 (.v v) (.lit 240)) = wA (E.i v) := den_an240 rfl h0 (by omega)
theorem wA_bd {x : Int} (h0 : 0 ≤ x) (h1 : x ≤ 18446744073709551615) : 0 ≤ wA x ∧ wA x < 18446744073709551616 := by unfold wA; omega
theorem t_g1 (h0 : 0 ≤ E.i v) (h1 : E.i v ≤ 18446744073709551615) : (SB.cmp .eql (.op .and .u64 (.op .shr .u64 (.op .andNot .u64 (.v v) (.lit 240)) (.lit 4)) (.lit 15)) (.lit 0)).den E = true := by
  obtain ⟨b0, b1⟩ := wA_bd h0 h1
  refine sb_eql (den_low 4 rfl (by decide) (den_shr 4 (by decide) (w_clear h0 h1) b0) (by simp only [show (2 : Int) ^ 4 = 16 from rfl]; omega) (by simp only [show (2 : Int) ^ 4 = 16 from rfl]; omega)) ?_
  simp only [show (2 : Int) ^ 4 = 16 from rfl]
  unfold wA; omega
theorem w_low (h0 : 0 ≤ E.i v) (h1 : E.i v ≤ 18446744073709551615) : SE.den E (.op .and .u64 (.op .andNot .u64 (.v v) (.lit 240)) (.lit 15)) = E.i v % 16 := by
  obtain ⟨b0, b1⟩ := wA_bd h0 h1
  refine (den_low (m := 15) 4 rfl (by decide) (w_clear h0 h1) b0 b1).trans ?_
  simp only [show (2 : Int) ^ 4 = 16 from rfl]
  unfold wA; omega
theorem t_gk {n : Int} (h0 : 0 ≤ E.i v) (h1 : E.i v ≤ 18446744073709551615) (hn : E.i v % 16 = n) : (SB.cmp .eql (.op .and .u64 (.op .andNot .u64 (.v v) (.lit 240)) (.lit 15)) (.lit n)).den E = true := sb_eql (w_low h0 h1) hn
theorem t_gk4a (h0 : 0 ≤ E.i v) (h1 : E.i v ≤ 18446744073709551615) (hn : 4 ≤ E.i v % 16) : (SB.cmp .eql (.mm false (.cv .i64 (.op .and .u64 (.op .andNot .u64 (.v v) (.lit 240)) (.lit 15))) (.lit 4)) (.lit 4)).den E = true := by
  refine sb_eql (x := if (4 : Int) < E.i v % 16 then 4 else E.i v % 16) ?_ (by split <;> omega)
  show (if (4 : Int) < SE.den E (.cv .i64 _) then 4 else SE.den E (.cv .i64 _)) = _
  rw [den_cvi (w_low h0 h1) (by omega) (by omega)]
theorem t_gk4b (h0 : 0 ≤ E.i v) (h1 : E.i v ≤ 18446744073709551615) (hn : 4 ≤ E.i v % 16) : (SB.cmp .eql (.mm false (.op .and .u64 (.op .andNot .u64 (.v v) (.lit 240)) (.lit 15)) (.lit 4)) (.lit 4)).den E = true := by
  refine sb_eql (x := if (4 : Int) < E.i v % 16 then 4 else E.i v % 16) ?_ (by split <;> omega)
  show (if (4 : Int) < SE.den E (.op .and .u64 _ _) then 4 else SE.den E (.op .and .u64 _ _)) = _
  rw [w_low h0 h1]
theorem w_label (h0 : 0 ≤ E.i v) (h1 : E.i v ≤ 18446744073709551615) : SE.den E (.op .and .u64 (.op .shr .u64 (.op .andNot .u64 (.v v) (.lit 240)) (.lit 8)) (.lit 1099511627775)) = E.i v / 256 % 1099511627776 := by
  obtain ⟨b0, b1⟩ := wA_bd h0 h1
  refine (den_low (m := 1099511627775) 40 rfl (by decide) (den_shr 8 (by decide) (w_clear h0 h1) b0) (by simp only [show (2 : Int) ^ 8 = 256 from rfl]; omega) (by simp only [show (2 : Int) ^ 8 = 256 from rfl]; omega)).trans ?_
  simp only [show (2 : Int) ^ 8 = 256 from rfl, show (2 : Int) ^ 40 = 1099511627776 from rfl]
  unfold wA; omega
theorem t_gm {n : Int} (h0 : 0 ≤ E.i v) (h1 : E.i v ≤ 18446744073709551615) (hn0 : 0 ≤ n) (hn1 : n ≤ 4) :
    (SB.cmp .neq (.op .or .u64 (.op .or .u64 (.op .shl .u64 (.op .and .u64 (.cv .u64 (.mm true (.cv .i64 (.op .and .u64 (.op .shr .u64 (.op .andNot .u64 (.v v) (.lit 240)) (.lit 8)) (.lit 1099511627775))) (.lit 0))) (.lit 1099511627775)) (.lit 8)) (.lit 0)) (.lit n))
      (.op .or .u64 (.op .shl .u64 (.op .and .u64 (.op .shr .u64 (.op .andNot .u64 (.v v) (.lit 240)) (.lit 8)) (.lit 1099511627775)) (.lit 8)) (.lit n))).den E = false := by
  obtain ⟨L, hL⟩ : ∃ L, E.i v / 256 % 1099511627776 = L := ⟨_, rfl⟩
  have e1 := w_label h0 h1
  rw [hL] at e1
  have hb : 0 ≤ L ∧ L < 1099511627776 := by omega
  have e2 : SE.den E (.cv .u64 (.mm true (.cv .i64 (.op .and .u64 (.op .shr .u64 (.op .andNot .u64 (.v v) (.lit 240)) (.lit 8)) (.lit 1099511627775))) (.lit 0))) = L := by
    refine den_cvu ?_ hb.1 (by omega)
    show (if SE.den E (.cv .i64 _) < 0 then 0 else SE.den E (.cv .i64 _)) = L
    rw [den_cvi e1 hb.1 (by omega), if_neg (by omega)]
  have e3 := den_low (E := E) (m := 1099511627775) 40 rfl (by decide) e2 hb.1 (by omega)
  rw [show L % 2 ^ 40 = L from by simp only [show (2 : Int) ^ 40 = 1099511627776 from rfl]; omega] at e3
  have s : ∀ {e : SE}, SE.den E e = L → SE.den E (.op .shl .u64 e (.lit 8)) = L * 256 := fun he => den_shl 8 (by decide) he hb.1 (by simp only [show (2 : Int) ^ 8 = 256 from rfl]; omega)
  refine sb_neq (x := L * 256 + n) ?_ (den_or 8 L rfl hb.1 (s e1) rfl hn0 (by simp only [show (2 : Int) ^ 8 = 256 from rfl]; show n < 256; omega) (by omega) (by decide))
  have e4 := den_or (E := E) (f := .lit 0) (x := L * 256) (y := 0) 8 L rfl hb.1 (s e3) rfl (by decide) (by decide) (by omega) (by decide)
  rw [show L * 256 + 0 = L * 256 by omega] at e4
  exact den_or 8 L rfl hb.1 e4 rfl hn0 (by simp only [show (2 : Int) ^ 8 = 256 from rfl]; show n < 256; omega) (by omega) (by decide)
end
structure BdM (E : Env) : Prop where
  w : ∀ i, i < 32 → 0 ≤ E.i i ∧ E.i i ≤ 18446744073709551615
theorem rrM_ok {lo hi : Int} (h : BdM E) (hb : lo ≤ E.i 32 ∧ E.i 32 ≤ hi) {r : List (Nat × Int × Int)} (hr : r = (List.range 32).map (fun i => (i, 0, 18446744073709551615)) ++ [(32, lo, hi)]) : ∀ i a b, (i, a, b) ∈ r → a ≤ E.i i ∧ E.i i ≤ b := by
  intro i a b hm
  rw [hr] at hm
  rcases List.mem_append.1 hm with h1 | h1
  · obtain ⟨j, hj, e⟩ := List.mem_map.1 h1
    obtain ⟨rfl, rfl, rfl⟩ : j = i ∧ (0 : Int) = a ∧ (18446744073709551615 : Int) = b := by simpa using e
    exact h.w j (List.mem_range.1 hj)
  · simp only [List.mem_cons, List.not_mem_nil, or_false, Prod.mk.injEq] at h1
    obtain ⟨rfl, rfl, rfl⟩ := h1
    exact hb
theorem flN_ok (h : BdM E) : ∀ c b, (c, b) ∈ flN → c.den E = b := by
  intro c b hm
  simp only [flN, List.mem_cons, List.not_mem_nil, or_false, Prod.mk.injEq] at hm
  rcases hm with ⟨rfl, rfl⟩ | ⟨rfl, rfl⟩
  · exact t_g1 (h.w 1 (by decide)).1 (h.w 1 (by decide)).2
  · exact t_g1 (h.w 17 (by decide)).1 (h.w 17 (by decide)).2
theorem faN_ok (h : BdM E) (b0 : 0 ≤ E.i 32) (b1 : E.i 32 ≤ 268435455) : FaOk E ⟨flN, rrN⟩ := ⟨flN_ok h, rrM_ok h ⟨b0, b1⟩ rfl⟩
theorem faNm_ok (h : BdM E) (b0 : 0 ≤ E.i 32) (b1 : E.i 32 ≤ 268435455) {k : SB} (hk : k.den E = true) : FaOk E ⟨(k, true) :: flN, rrN⟩ :=
  ⟨fun c b hc => by
    rcases List.mem_cons.1 hc with e | hc
    · cases e; exact hk
    · exact flN_ok h c b hc, rrM_ok h ⟨b0, b1⟩ rfl⟩
theorem faNm0_ok (h : BdM E) (b0 : 0 ≤ E.i 32) (b1 : E.i 32 ≤ 268435455) (hn : E.i 1 % 16 = 0) : FaOk E ⟨flNm0, rrN⟩ := faNm_ok h b0 b1 (t_gk (h.w 1 (by decide)).1 (h.w 1 (by decide)).2 hn)
theorem flNx0_ok (h : BdM E) (hn : E.i 17 % 16 = 0) : ∀ s b, (s, b) ∈ flNx0 → s.den E = b := by
  intro c b hc
  rcases List.mem_cons.1 hc with e | hc
  · cases e; exact t_gk (h.w 17 (by decide)).1 (h.w 17 (by decide)).2 hn
  rcases List.mem_cons.1 hc with e | hc
  · cases e; exact t_gm (h.w 17 (by decide)).1 (h.w 17 (by decide)).2 (by decide) (by decide)
  cases hc
theorem faNn0_ok (h : BdM E) (b0 : 0 ≤ E.i 32) (b1 : E.i 32 ≤ 268435455) (hn : E.i 17 % 16 = 0) : FaOk E ⟨flNn0, rrN⟩ := ⟨fun c b hc => by
  rcases List.mem_append.1 hc with h1 | h1
  · exact flNx0_ok h hn c b h1
  · exact flN_ok h c b h1, rrM_ok h ⟨b0, b1⟩ rfl⟩
theorem faNm1_ok (h : BdM E) (b0 : 0 ≤ E.i 32) (b1 : E.i 32 ≤ 268435455) (hn : E.i 1 % 16 = 1) : FaOk E ⟨flNm1, rrN⟩ := faNm_ok h b0 b1 (t_gk (h.w 1 (by decide)).1 (h.w 1 (by decide)).2 hn)
theorem flNx1_ok (h : BdM E) (hn : E.i 17 % 16 = 1) : ∀ s b, (s, b) ∈ flNx1 → s.den E = b := by
  intro c b hc
  rcases List.mem_cons.1 hc with e | hc
  · cases e; exact t_gk (h.w 17 (by decide)).1 (h.w 17 (by decide)).2 hn
  rcases List.mem_cons.1 hc with e | hc
  · cases e; exact t_gm (h.w 17 (by decide)).1 (h.w 17 (by decide)).2 (by decide) (by decide)
  cases hc
theorem faNn1_ok (h : BdM E) (b0 : 0 ≤ E.i 32) (b1 : E.i 32 ≤ 268435455) (hn : E.i 17 % 16 = 1) : FaOk E ⟨flNn1, rrN⟩ := ⟨fun c b hc => by
  rcases List.mem_append.1 hc with h1 | h1
  · exact flNx1_ok h hn c b h1
  · exact flN_ok h c b h1, rrM_ok h ⟨b0, b1⟩ rfl⟩
theorem faNm2_ok (h : BdM E) (b0 : 0 ≤ E.i 32) (b1 : E.i 32 ≤ 268435455) (hn : E.i 1 % 16 = 2) : FaOk E ⟨flNm2, rrN⟩ := faNm_ok h b0 b1 (t_gk (h.w 1 (by decide)).1 (h.w 1 (by decide)).2 hn)
theorem flNx2_ok (h : BdM E) (hn : E.i 17 % 16 = 2) : ∀ s b, (s, b) ∈ flNx2 → s.den E = b := by
  intro c b hc
  rcases List.mem_cons.1 hc with e | hc
  · cases e; exact t_gk (h.w 17 (by decide)).1 (h.w 17 (by decide)).2 hn
  rcases List.mem_cons.1 hc with e | hc
  · cases e; exact t_gm (h.w 17 (by decide)).1 (h.w 17 (by decide)).2 (by decide) (by decide)
  cases hc
theorem faNn2_ok (h : BdM E) (b0 : 0 ≤ E.i 32) (b1 : E.i 32 ≤ 268435455) (hn : E.i 17 % 16 = 2) : FaOk E ⟨flNn2, rrN⟩ := ⟨fun c b hc => by
  rcases List.mem_append.1 hc with h1 | h1
  · exact flNx2_ok h hn c b h1
  · exact flN_ok h c b h1, rrM_ok h ⟨b0, b1⟩ rfl⟩
theorem faNm3_ok (h : BdM E) (b0 : 0 ≤ E.i 32) (b1 : E.i 32 ≤ 268435455) (hn : E.i 1 % 16 = 3) : FaOk E ⟨flNm3, rrN⟩ := faNm_ok h b0 b1 (t_gk (h.w 1 (by decide)).1 (h.w 1 (by decide)).2 hn)
theorem flNx3_ok (h : BdM E) (hn : E.i 17 % 16 = 3) : ∀ s b, (s, b) ∈ flNx3 → s.den E = b := by
  intro c b hc
  rcases List.mem_cons.1 hc with e | hc
  · cases e; exact t_gk (h.w 17 (by decide)).1 (h.w 17 (by decide)).2 hn
  rcases List.mem_cons.1 hc with e | hc
  · cases e; exact t_gm (h.w 17 (by decide)).1 (h.w 17 (by decide)).2 (by decide) (by decide)
  cases hc
theorem faNn3_ok (h : BdM E) (b0 : 0 ≤ E.i 32) (b1 : E.i 32 ≤ 268435455) (hn : E.i 17 % 16 = 3) : FaOk E ⟨flNn3, rrN⟩ := ⟨fun c b hc => by
  rcases List.mem_append.1 hc with h1 | h1
  · exact flNx3_ok h hn c b h1
  · exact flN_ok h c b h1, rrM_ok h ⟨b0, b1⟩ rfl⟩
theorem faNm4_ok (h : BdM E) (b0 : 0 ≤ E.i 32) (b1 : E.i 32 ≤ 268435455) (hn : 4 ≤ E.i 1 % 16) : FaOk E ⟨flNm4, rrN⟩ := faNm_ok h b0 b1 (t_gk4a (h.w 1 (by decide)).1 (h.w 1 (by decide)).2 hn)
theorem flNx4_ok (h : BdM E) (hn : 4 ≤ E.i 17 % 16) : ∀ s b, (s, b) ∈ flNx4 → s.den E = b := by
  intro c b hc
  rcases List.mem_cons.1 hc with e | hc
  · cases e; exact t_gk4a (h.w 17 (by decide)).1 (h.w 17 (by decide)).2 hn
  rcases List.mem_cons.1 hc with e | hc
  · cases e; exact t_gk4b (h.w 17 (by decide)).1 (h.w 17 (by decide)).2 hn
  rcases List.mem_cons.1 hc with e | hc
  · cases e; exact t_gm (h.w 17 (by decide)).1 (h.w 17 (by decide)).2 (by decide) (by decide)
  cases hc
theorem faNn4_ok (h : BdM E) (b0 : 0 ≤ E.i 32) (b1 : E.i 32 ≤ 268435455) (hn : 4 ≤ E.i 17 % 16) : FaOk E ⟨flNn4, rrN⟩ := ⟨fun c b hc => by
  rcases List.mem_append.1 hc with h1 | h1
  · exact flNx4_ok h hn c b h1
  · exact flN_ok h c b h1, rrM_ok h ⟨b0, b1⟩ rfl⟩
theorem faNng_ok (h : BdM E) (b : -9223372036854775808 ≤ E.i 32 ∧ E.i 32 ≤ -1) : FaOk E ⟨[], rrNn⟩ := ⟨fun c x hc => (by cases hc), rrM_ok h b rfl⟩
theorem faNbg_ok (h : BdM E) (b : 268435456 ≤ E.i 32 ∧ E.i 32 ≤ 9223372036854775807) : FaOk E ⟨[], rrNb⟩ := ⟨fun c x hc => (by cases hc), rrM_ok h b rfl⟩
end Go.Ev.X
end
