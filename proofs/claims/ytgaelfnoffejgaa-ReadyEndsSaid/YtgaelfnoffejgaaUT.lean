/-
 Threads out of any words: right, or not.
-/
import Derived.Test.YtgaelfnoffejgaaMQ
set_option linter.unusedSimpArgs false
set_option linter.unusedVariables false
set_option maxRecDepth 100000
noncomputable section
namespace Go.Ev.X
open Go Go.Ev Go.Proofs
variable {E : Env} {f : Nat → Int} {t : Nat}
def t16 (i : Nat) : Nat := 1024 + 64 * i
def T16 (t : Nat) : Prop := ∃ i, i < 16 ∧ t = t16 i
def zW : V := .agg [.i .i64 0, .i .i64 0, .i .i64 0, .b false, .i .i64 0, .i .i64 0, .i .i64 0, .i .i64 0, .b false, .b false, .i .i64 0, .i .i64 0, .i .i64 0, .i .i64 0, .i .u64 0, .i .u64 0, .i .u64 0, .i .u64 0, .i .u64 0, .i .u64 0, .i .u64 0, .i .u64 0, .i .u64 0, .i .u64 0, .i .u64 0, .i .u64 0, .i .u64 0, .i .u64 0, .i .u64 0, .i .u64 0]
def zR : List RS := [.i .i64 0, .i .i64 0, .i .i64 0, .b false, .i .i64 0, .i .i64 0, .i .i64 0, .i .i64 0, .b false, .b false, .i .i64 0, .i .i64 0, .i .i64 0, .i .i64 0, .i .u64 0, .i .u64 0, .i .u64 0, .i .u64 0, .i .u64 0, .i .u64 0, .i .u64 0, .i .u64 0, .i .u64 0, .i .u64 0, .i .u64 0, .i .u64 0, .i .u64 0, .i .u64 0, .i .u64 0, .i .u64 0]
def stB : SE := .cv .i64 (.op .shr .u64 (.op .and .u64 (.v 100) (.lit 7)) (.lit 0))
def slB : SE := .cv .i64 (.op .shr .u64 (.op .and .u64 (.v 100) (.lit 14336)) (.lit 11))
def bdF (v : Nat) : List (SB × Bool) := (.cmp .neq (.op .shr .u64 (.v 100) (.lit 19)) (.lit 0), Nat.ble v 1) :: (.cmp .neq (.op .shr .u64 (.v 101) (.lit 64)) (.lit 0), false) :: (.cmp .neq (.op .shr .u64 (.v 102) (.lit 28)) (.lit 0), Nat.beq v 1 || Nat.beq v 2) :: (.cmp .neq (.op .shr .u64 (.v 103) (.lit 64)) (.lit 0), false) :: (match v with
 | 3 => [(.cmp .gtr stB (.lit 5), true)]
 | 4 => [(.cmp .gtr stB (.lit 5), false), (.cmp .gtr slB (.lit 5), true)]
 | _ => [])
def thB (v t : Nat) : Sm := ⟨[.one (.i .i64 (.ofNat t))], [(t + 16, 100), (t + 17, 101), (t + 18, 102), (t + 19, 103)], bdF v, .tup [.agg zR, .one (.i .i64 90)], [], 4⟩
theorem thB_run : allB (fun i => allB (fun v => smK cP 13 (thB v (t16 i))) (rng 5)) (rng 16) = true := by decide +kernel
theorem th16_run : allB (fun i => smK cP 13 (thS (t16 i))) (rng 16) = true := by decide +kernel
def WA (f : Nat → Int) : Prop := ∀ i, W64 (f i)
def zTV : Value := .agg #[.int .i64 0, .int .i64 0, .int .i64 0, .bool false, .int .i64 0, .int .i64 0, .int .i64 0, .int .i64 0, .bool false, .bool false, .int .i64 0, .int .i64 0, .int .i64 0, .int .i64 0, .int .u64 0, .int .u64 0, .int .u64 0, .int .u64 0, .int .u64 0, .int .u64 0, .int .u64 0, .int .u64 0, .int .u64 0, .int .u64 0, .int .u64 0, .int .u64 0, .int .u64 0, .int .u64 0, .int .u64 0, .int .u64 0]
theorem thr_u (ht : T16 t) (h : RightAt f t) : MemC PP cP 13 [.int .i64 t] f (.tuple #[thV (getT f t) (regs f t), .int .i64 0]) f 20 := by
 obtain ⟨i, hi, rfl⟩ := ht
 have k := smK_ok (rng_ok th16_run i hi)
 exact thread_c hcl k.1 k.2 h
theorem bad_u (ht : T16 t) (hw : WA f) (h : ¬ RightAt f t) : MemC PP cP 13 [.int .i64 t] f (.tuple #[zTV, .int .i64 90]) f 4 := by
 obtain ⟨i, hi, rfl⟩ := ht
 obtain ⟨a0, a1⟩ := hw (t16 i + 16)
 obtain ⟨b0, b1⟩ := hw (t16 i + 17)
 obtain ⟨c0, c1⟩ := hw (t16 i + 18)
 obtain ⟨d0, d1⟩ := hw (t16 i + 19)
 have hr := rng_ok thB_run i hi
 generalize t16 i = t at *
 have key : ∀ v, v < 5 → (∀ st, FaOk (envT cP.N st f t) ⟨bdF v, []⟩) → MemC PP cP 13 [.int .i64 t] f (.tuple #[zTV, .int .i64 90]) f 4 := fun v hv hfa => by
  have k := smK_ok (rng_ok hr v hv)
  refine memC_of_sm (s := thB v t) k.1 rfl k.2 fun st => ⟨envT cP.N st f t, rfl, hcl _, hfa st, rowF_is _ _, ?_, rfl, fun ρ => rfl, fun ρ => rfl⟩
  simp only [thB, List.mem_cons, List.not_mem_nil, or_false, forall_eq_or_imp, forall_eq]
  exact ⟨rfl, rfl, rfl, rfl⟩
 have d0' : ∀ st, SE.den (envT cP.N st f t) (.op .shr .u64 (.v 100) (.lit 19)) = f (t + 16) / 524288 := fun st => by
  rw [show (19 : Int) = ((19 : Nat) : Int) from rfl, den_shr 19 (by omega) (x := f (t + 16)) rfl a0]; rfl
 have d1' : ∀ st, SE.den (envT cP.N st f t) (.op .shr .u64 (.v 101) (.lit 64)) = f (t + 17) / 18446744073709551616 := fun st => by
  rw [show (64 : Int) = ((64 : Nat) : Int) from rfl, den_shr 64 (by omega) (x := f (t + 17)) rfl b0]; rfl
 have d2' : ∀ st, SE.den (envT cP.N st f t) (.op .shr .u64 (.v 102) (.lit 28)) = f (t + 18) / 268435456 := fun st => by
  rw [show (28 : Int) = ((28 : Nat) : Int) from rfl, den_shr 28 (by omega) (x := f (t + 18)) rfl c0]; rfl
 have d3' : ∀ st, SE.den (envT cP.N st f t) (.op .shr .u64 (.v 103) (.lit 64)) = f (t + 19) / 18446744073709551616 := fun st => by
  rw [show (64 : Int) = ((64 : Nat) : Int) from rfl, den_shr 64 (by omega) (x := f (t + 19)) rfl d0]; rfl
 have e1 : ∀ st, SE.den (envT cP.N st f t) stB = f (t + 16) % 8 := fun st => by
  have := den_fn (E := envT cP.N st f t) (e := .v 100) (M := 7) (A := 1) (B := 8) 0 3 rfl rfl rfl (by omega) (by omega) (w := f (t + 16)) rfl a0 (by omega)
  rw [Int.ediv_one] at this; exact this
 have e2 : ∀ st, SE.den (envT cP.N st f t) slB = f (t + 16) / 2048 % 8 := fun st =>
  den_fn (E := envT cP.N st f t) (e := .v 100) (M := 14336) (A := 2048) (B := 8) 11 3 rfl rfl rfl (by omega) (by omega) (w := f (t + 16)) rfl a0 (by omega)
 have n1 : ∀ st, (SB.cmp .neq (.op .shr .u64 (.v 101) (.lit 64)) (.lit 0)).den (envT cP.N st f t) = false := fun st => f_nen (by rw [d1']; show _ = (0 : Int); omega)
 have n3 : ∀ st, (SB.cmp .neq (.op .shr .u64 (.v 103) (.lit 64)) (.lit 0)).den (envT cP.N st f t) = false := fun st => f_nen (by rw [d3']; show _ = (0 : Int); omega)
 have aT : ¬ f (t + 16) < 524288 → ∀ st, (SB.cmp .neq (.op .shr .u64 (.v 100) (.lit 19)) (.lit 0)).den (envT cP.N st f t) = true := fun h st => f_ne (by rw [d0']; show _ ≠ (0 : Int); omega)
 have aF : f (t + 16) < 524288 → ∀ st, (SB.cmp .neq (.op .shr .u64 (.v 100) (.lit 19)) (.lit 0)).den (envT cP.N st f t) = false := fun h st => f_nen (by rw [d0']; show _ = (0 : Int); omega)
 have cT : ¬ f (t + 18) < 268435456 → ∀ st, (SB.cmp .neq (.op .shr .u64 (.v 102) (.lit 28)) (.lit 0)).den (envT cP.N st f t) = true := fun h st => f_ne (by rw [d2']; show _ ≠ (0 : Int); omega)
 have cF : f (t + 18) < 268435456 → ∀ st, (SB.cmp .neq (.op .shr .u64 (.v 102) (.lit 28)) (.lit 0)).den (envT cP.N st f t) = false := fun h st => f_nen (by rw [d2']; show _ = (0 : Int); omega)
 by_cases hA : f (t + 16) < 524288
 ·by_cases hC : f (t + 18) < 268435456
  ·by_cases hS : f (t + 16) % 8 ≤ 5
   ·by_cases hL : f (t + 16) / 2048 % 8 ≤ 5
    ·exact absurd ⟨⟨a0, hA⟩, ⟨b0, b1⟩, ⟨c0, hC⟩, ⟨d0, d1⟩, hS, hL⟩ h
    ·exact key 4 (by omega) fun st => fa_list (l := bdF 4) ⟨aF hA st, n1 st, cF hC st, n3 st, f_gtn (by rw [e1]; exact hS), f_gt (by rw [e2]; show (5 : Int) < _; omega), trivial⟩ trivial
   ·exact key 3 (by omega) fun st => fa_list (l := bdF 3) ⟨aF hA st, n1 st, cF hC st, n3 st, f_gt (by rw [e1]; show (5 : Int) < _; omega), trivial⟩ trivial
  ·exact key 2 (by omega) fun st => fa_list (l := bdF 2) ⟨aF hA st, n1 st, cT hC st, n3 st, trivial⟩ trivial
 ·by_cases hC : f (t + 18) < 268435456
  ·exact key 0 (by omega) fun st => fa_list (l := bdF 0) ⟨aT hA st, n1 st, cF hC st, n3 st, trivial⟩ trivial
  ·exact key 1 (by omega) fun st => fa_list (l := bdF 1) ⟨aT hA st, n1 st, cT hC st, n3 st, trivial⟩ trivial
end Go.Ev.X
end
