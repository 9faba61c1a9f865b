/-
 What both memories are in the beginning: for each list of priorities.
-/
import Derived.Test.YtgaelfnoffejgaaMM
set_option linter.unusedSimpArgs false
set_option linter.unusedVariables false
set_option maxRecDepth 100000
noncomputable section
namespace Go.Ev.X
open Go Go.Ev Go.Proofs
variable {E : Env} {f : Nat → Int}
def I64 (x : Int) : Prop := -9223372036854775808 ≤ x ∧ x ≤ 9223372036854775807
structure RowI (r : Row) (D : Nat → Int) : Prop where
 esz : r.esz = 1
 c : ∀ i, i < r.len → r.cs[r.off + i]? = some (.int .i64 (D i)) ∧ I64 (D i)
def lowI (x : Int) : Int := x % 256
def thr0 (p : Int) : TV := ⟨1, p, 5, false, 0, 0, 0, 0, false, false, 0, 0, 0, 0⟩
theorem thr0_right {p : Int} (h : 0 ≤ p ∧ p < 256) : (thr0 p).Right := by
 refine ⟨?_, h, ?_, ?_, ?_, ?_, ?_, ?_, ?_, ?_, ?_⟩ <;> simp [thr0]
def prD (n : Nat) (D : Nat → Int) (i : Nat) : Int := if i < n then lowI (D i) else 0
theorem prD_lt (n : Nat) (D : Nat → Int) (i : Nat) : 0 ≤ prD n D i ∧ prD n D i < 256 := by
 unfold prD lowI
 split <;> omega
def madeF (pr : Nat → Int) : Nat → Nat → Int
 | 0 => fun _ => 0
 | i + 1 => setT (madeF pr i) (tcM i) (thr0 (pr i))
theorem madeF_regs (pr : Nat → Int) : ∀ (i t j : Nat), t % 64 = 0 → j < 16 → madeF pr i (t + 32 + j) = 0
 | 0, t, j, h, hj => rfl
 | i + 1, t, j, h, hj => by
  show setT (madeF pr i) (tcM i) _ (t + 32 + j) = 0
  rw [setT_other _ _ (by unfold tcM; omega)]
  exact madeF_regs pr i t j h hj
theorem tcM_tt {i : Nat} (h : i < 8) : TT (tcM i) := by unfold tcM TT; omega
theorem pure1 {F : Nat} {x y : Int} {b : List (SB × Bool)} {s : V} (hr : callS cx0 0 noCall F [.si .i64 (.v 0)] ⟨.h, .h, .e⟩ ⟨b, []⟩ (endV s) = 0) (hb : ∀ E : Env, E.i 0 = x → FsOk E b) (hy : ∀ (E : Env) ρ, E.i 0 = x → s.γ E ρ = .int .i64 y) (W : World) :
  Calls PP F #[.int .i64 x] W fun e w' => e = .returned (.int .i64 y) ∧ RowKit.Below W.heap.size W w' := by
 obtain ⟨E, hE⟩ : ∃ E : Env, E = ⟨fun _ => x, fun _ => false, fun _ => rowF 0 (fun _ => 0)⟩ := ⟨_, rfl⟩
 have e0 : E.i 0 = x := by rw [hE]
 have := val_of_run (hC0 E) noCall_ok (fa_list (l := b) (r := []) (hb E e0) trivial) hr (l := [.si .i64 (.v 0)]) ⟨trivial, trivial⟩ (fun _ => ⟨0, 0⟩) W
 have hargs : (γL E (fun _ => ⟨0, 0⟩) [.si .i64 (.v 0)]).toArray = #[.int .i64 x] := by simp only [γL, V.γ, SE.den, e0]
 rw [hargs] at this
 refine this.mono ?_
 rintro e w' ⟨⟨ρ', rfl⟩, hb⟩
 exact ⟨by rw [hy E ρ' e0], hb⟩
def kR (m : Int) (b : Bool) : SE := bif b then .op .add .i64 (.op .rem .i64 (.v 0) (.lit m)) (.lit m) else .op .rem .i64 (.v 0) (.lit m)
def fR (m : Int) (b : Bool) : SB × Bool := (.cmp .lss (.op .rem .i64 (.v 0) (.lit m)) (.lit 0), b)
theorem low_run : callS cx0 0 noCall 17 [.si .i64 (.v 0)] ⟨.h, .h, .e⟩ ⟨[fR 256 false], []⟩ (endV (.si .i64 (kR 256 false))) = 0 ∧ callS cx0 0 noCall 17 [.si .i64 (.v 0)] ⟨.h, .h, .e⟩ ⟨[fR 256 true], []⟩ (endV (.si .i64 (kR 256 true))) = 0 := by decide +kernel
theorem tcb_run : allB (fun b => Nat.beq (callS cx0 0 noCall 10 [.si .i64 (.v 0)] ⟨.h, .h, .e⟩ ⟨[fR 9 b, (.cmp .eql (kR 9 b) (.lit 8), true)], []⟩ (endV (.i .i64 1056))) 0 &&
  Nat.beq (callS cx0 0 noCall 10 [.si .i64 (.v 0)] ⟨.h, .h, .e⟩ ⟨[fR 9 b, (.cmp .eql (kR 9 b) (.lit 8), false)], []⟩ (endV (.si .i64 (.op .add .i64 (.lit 1024) (.op .mul .i64 (.lit 64) (kR 9 b)))))) 0) bools = true := by decide +kernel
theorem rem_den {x m : Int} (h0 : E.i 0 = x) (hx : I64 x) (hm : 0 < m ∧ m < 1000) : (fR m (decide (x.tmod m < 0))).1.den E = decide (x.tmod m < 0) ∧ (kR m (decide (x.tmod m < 0))).den E = x % m := by
 have e1 : SE.den E (.op .rem .i64 (.v 0) (.lit m)) = x.tmod m := by
  show (E.i 0).tmod m = _
  rw [h0]
 have hb1 := Int.tmod_lt_of_pos x hm.1
 have hb2 := Int.lt_tmod_of_pos x hm.1
 have hsum := Int.mul_tdiv_add_tmod x m
 have key : ∀ y : Int, 0 ≤ y → y < m → ∀ k, x = y + m * k → x % m = y := fun y h1 h2 k h3 => by
  rw [h3, Int.add_mul_emod_self_left]; exact Int.emod_eq_of_lt h1 h2
 refine ⟨?_, ?_⟩
 ·show iLt (SE.den E (.op .rem .i64 (.v 0) (.lit m))) 0 = _
  rw [e1, iLt_eq]
 ·by_cases hn : x.tmod m < 0
  ·rw [decide_eq_true hn]
   show wrapF .i64 (SE.den E (.op .rem .i64 (.v 0) (.lit m)) + m) = _
   rw [e1, wrapF_eq, IntKind.wrap_i64, key (x.tmod m + m) (by omega) (by omega) (x.tdiv m - 1) (by rw [Int.mul_sub, Int.mul_one]; omega)]
   omega
  ·rw [decide_eq_false hn]
   show SE.den E (.op .rem .i64 (.v 0) (.lit m)) = _
   rw [e1, key (x.tmod m) (by omega) hb1 (x.tdiv m) (by omega)]
theorem low_c {x : Int} (hx : I64 x) (W : World) : Calls PP 17 #[.int .i64 x] W fun e w' => e = .returned (.int .i64 (lowI x)) ∧ RowKit.Below W.heap.size W w' := by
 by_cases hn : x.tmod 256 < 0
 ·exact pure1 low_run.2 (fun E h0 => ⟨by have := (rem_den h0 hx (m := 256) (by omega)).1; rw [decide_eq_true hn] at this; exact this, trivial⟩) (fun E ρ h0 => by have := (rem_den h0 hx (m := 256) (by omega)).2; rw [decide_eq_true hn] at this; exact vsi this) W
 ·exact pure1 low_run.1 (fun E h0 => ⟨by have := (rem_den h0 hx (m := 256) (by omega)).1; rw [decide_eq_false hn] at this; exact this, trivial⟩) (fun E ρ h0 => by have := (rem_den h0 hx (m := 256) (by omega)).2; rw [decide_eq_false hn] at this; exact vsi this) W
def tcI (x : Int) : Int := if x % 9 = 8 then 1056 else 1024 + 64 * (x % 9)
theorem tcb_c {x : Int} (hx : I64 x) (W : World) : Calls PP 10 #[.int .i64 x] W fun e w' => e = .returned (.int .i64 (tcI x)) ∧ RowKit.Below W.heap.size W w' := by
 have hr := allB_ok tcb_run (decide (x.tmod 9 < 0)) (b_mem _)
 simp only [Bool.and_eq_true] at hr
 obtain ⟨r1, r2⟩ := hr
 unfold tcI
 by_cases h8 : x % 9 = 8
 ·rw [if_pos h8]
  refine pure1 (Nat.eq_of_beq_eq_true r1) (fun E h0 => ?_) (fun E ρ h0 => rfl) W
  obtain ⟨d1, d2⟩ := rem_den h0 hx (m := 9) (by omega)
  exact ⟨d1, f_eq (by rw [d2]; exact h8), trivial⟩
 ·rw [if_neg h8]
  refine pure1 (Nat.eq_of_beq_eq_true r2) (fun E h0 => ?_) (fun E ρ h0 => vsi ?_) W
  ·obtain ⟨d1, d2⟩ := rem_den h0 hx (m := 9) (by omega)
   exact ⟨d1, f_eqn (by rw [d2]; exact h8), trivial⟩
  ·obtain ⟨d1, d2⟩ := rem_den h0 hx (m := 9) (by omega)
   show wrapF .i64 (1024 + wrapF .i64 (64 * SE.den E (kR 9 (decide (x.tmod 9 < 0))))) = _
   rw [d2, wrapF_eq, wrapF_eq, IntKind.wrap_i64, IntKind.wrap_i64]
   omega
theorem pe1 {F i : Nat} {x y : Int} {v : V} (hca : Callable PP F) (hx : E.i i = x) (hv : ∀ ρ, v.γ E ρ = .int .i64 y) (hbd : v.bd 0) (hc : ∀ W, Calls PP F #[.int .i64 x] W fun e w' => e = .returned (.int .i64 y) ∧ RowKit.Below W.heap.size W w') : PEntOk PP E ⟨F, [.si .i64 (.v i)], v⟩ :=
 ⟨hbd, hca, fun ρ w => by
  have hargs : (γL E ρ [.si .i64 (.v i)]).toArray = #[.int .i64 x] := by simp only [γL, V.γ, SE.den, hx]
  rw [hargs]
  refine (hc w).mono ?_
  rintro e w' ⟨rfl, hb⟩
  exact ⟨by rw [hv ρ], hb⟩⟩
theorem low_ok {x : Int} (hx : I64 x) (h3 : E.i 3 = x) (h4 : E.i 4 = lowI x) : PEntOk PP E ⟨17, [.si .i64 (.v 3)], .si .i64 (.v 4)⟩ := pe1 Try.call17 h3 (fun ρ => vsi h4) trivial (low_c hx)
theorem tcb_ok {i : Nat} (hi : i < 8) (h2 : E.i 2 = (i : Int)) : PEntOk PP E ⟨10, [.si .i64 (.v 2)], .i .i64 (.ofNat (tcM i))⟩ :=
 pe1 Try.call10 h2 (y := (tcM i : Nat)) (fun ρ => rfl) trivial fun W => by
  have := tcb_c (x := (i : Int)) (by unfold I64; omega) W
  have e : tcI (i : Int) = ((tcM i : Nat) : Int) := by unfold tcI tcM; rw [if_neg (by omega)]; omega
  rw [e] at this; exact this
end Go.Ev.X
end
