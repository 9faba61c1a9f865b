/-
 What both memories are in the beginning: the runs.
-/
import Derived.Test.YtgaelfnoffejgaaMBR
import Derived.Test.YtgaelfnoffejgaaEvCe
import Derived.Test.YtgaelfnoffejgaaE6
set_option linter.unusedSimpArgs false
set_option linter.unusedVariables false
set_option maxRecDepth 100000
noncomputable section
namespace Go.Ev.X
open Go Go.Ev Go.Proofs
def q1 : Ev.P := .h
def q2 : Ev.P := (.o .h)
def q3 : Ev.P := (.i .h)
def q4 : Ev.P := (.o (.o .h))
def q5 : Ev.P := (.i (.o .h))
def q6 : Ev.P := (.o (.i .h))
def q7 : Ev.P := (.i (.i .h))
def q8 : Ev.P := (.o (.o (.o .h)))
def q9 : Ev.P := (.i (.o (.o .h)))
def qm : CutX := ⟨(.seqR (.ops [.op (some k2) none (.mov (.c .nil))]) (.seqR (.ops [.call (some k10) none (.c (.fn 23 [] [])) [(.c (.i .i64 11))], .op (some k9) none (.mov (.s k10)), .op (some k11) none (.ext (.s k9) 0), .op (some k12) none (.ext (.s k9) 1), .op (some k3) none (.mov (.s k11)), .op (some k4) none (.mov (.s k12))]) (.seqR (.ops [.call (some k14) none (.c (.fn 27 [] [])) [(.c (.i .i64 11))], .op (some k13) none (.mov (.s k14)), .op (some k15) none (.ext (.s k13) 0), .op (some k16) none (.ext (.s k13) 1), .op (some k5) none (.mov (.s k15)), .op (some k6) none (.mov (.s k16))]) (.seqR (.seq (.ops [.op (some k17) none (.mov (.s k3)), .op (some k18) none (.bin .eql .ptr (.s k17) (.c .nil)), .op (some k19) none (.mov (.s k18)), .op (some k20) (some (k19, false)) (.mov (.s k5)), .op (some k21) (some (k19, false)) (.bin .eql .ptr (.s k20) (.c .nil)), .op (some k22) none (.pick (.s k19) (.c (.b true)) (.s k21)), .op (some k23) none (.mov (.s k22)), .op (some k24) (some (k23, false)) (.mov (.s k4)), .op (some k25) (some (k23, false)) (.bin .neq .num (.s k24) (.c (.i .i64 0))), .op (some k26) none (.pick (.s k23) (.c (.b true)) (.s k25)), .op (some k27) none (.mov (.s k26)), .op (some k28) (some (k27, false)) (.mov (.s k6)), .op (some k29) (some (k27, false)) (.bin .neq .num (.s k28) (.c (.i .i64 0))), .op (some k30) none (.pick (.s k27) (.c (.b true)) (.s k29))]) (.cond k30 (.seq (.ops [.op (some k2) none (.mov (.c .nil))]) .ret) .skip)) (.seqL (.seqR (.ops [.op (some k7) none (.mov (.c (.i .i64 0)))]) (.block 0 .hole)) (.seq (.ops [.op (some k62) none (.mov (.s k3)), .op (some k63) none (.mov (.s k5)), .op (some k64) none (.agg [.nil, .nil] [(0, 1, (.s k62)), (1, 1, (.s k63))]), .op (some k65) none (.box 32 (.s k64)), .op (some k2) none (.mov (.s k65))]) .ret)))))), (.seq (.seq (.ops [.op (some k31) none (.mov (.s k7)), .op (some k32) none (.bin .lss .num (.s k31) (.c (.i .i64 8)))]) (.cond k32 .skip (.exit 0))) (.seq (.block 1 (.seq (.ops [.op (some k35) none (.agg [(.i .i64 0), (.i .i64 0), (.i .i64 0), (.b false), (.i .i64 0), (.i .i64 0), (.i .i64 0), (.i .i64 0), (.b false), (.b false), (.i .i64 0), (.i .i64 0), (.i .i64 0), (.i .i64 0), (.i .u64 0), (.i .u64 0), (.i .u64 0), (.i .u64 0), (.i .u64 0), (.i .u64 0), (.i .u64 0), (.i .u64 0), (.i .u64 0), (.i .u64 0), (.i .u64 0), (.i .u64 0), (.i .u64 0), (.i .u64 0), (.i .u64 0), (.i .u64 0)] [(0, 1, (.c (.i .i64 1))), (2, 1, (.c (.i .i64 5)))]), .op (some k8) none (.new 36 [(.i .i64 0), (.i .i64 0), (.i .i64 0), (.b false), (.i .i64 0), (.i .i64 0), (.i .i64 0), (.i .i64 0), (.b false), (.b false), (.i .i64 0), (.i .i64 0), (.i .i64 0), (.i .i64 0), (.i .u64 0), (.i .u64 0), (.i .u64 0), (.i .u64 0), (.i .u64 0), (.i .u64 0), (.i .u64 0), (.i .u64 0), (.i .u64 0), (.i .u64 0), (.i .u64 0), (.i .u64 0), (.i .u64 0), (.i .u64 0), (.i .u64 0), (.i .u64 0)]), .op none none (.st 30 (.s k8) (.s k35))]) (.seq (.seq (.ops [.op (some k36) none (.mov (.s k7)), .op (some k37) none (.mov (.s k0)), .op (some k38) none (.lens (.s k37)), .op (some k39) none (.bin .lss .num (.s k36) (.s k38))]) (.cond k39 (.ops [.op (some k40) none (.mov (.s k0)), .op (some k41) none (.mov (.s k7)), .op (some k42) none (.ixs 1 (.s k40) (.s k41)), .op (some k43) none (.ld (.s k42)), .call (some k44) none (.c (.fn 17 [] [])) [(.s k43)], .op (some k45) none (.fad 1 (.s k8)), .op none none (.st 1 (.s k45) (.s k44))]) .skip)) (.seq (.seq (.qops [.op (some k46) none (.mov (.s k3)), .op (some k47) none (.mov (.s k7)), .call (some k48) none (.c (.fn 10 [] [])) [(.s k47)], .op (some k49) none (.ldn 30 (.s k8))]) (.ops [.call (some k50) none (.c (.fn 28 [] [])) [(.s k46), (.s k48), (.s k49)], .op (some k4) none (.mov (.s k50))])) (.seq (.seq (.qops [.op (some k51) none (.mov (.s k5)), .op (some k52) none (.mov (.s k7)), .call (some k53) none (.c (.fn 10 [] [])) [(.s k52)], .op (some k54) none (.ldn 30 (.s k8))]) (.ops [.call (some k55) none (.c (.fn 29 [] [])) [(.s k51), (.s k53), (.s k54)], .op (some k6) none (.mov (.s k55))])) (.seq (.ops [.op (some k56) none (.mov (.s k4)), .op (some k57) none (.bin .neq .num (.s k56) (.c (.i .i64 0))), .op (some k58) none (.mov (.s k57)), .op (some k59) (some (k58, false)) (.mov (.s k6)), .op (some k60) (some (k58, false)) (.bin .neq .num (.s k59) (.c (.i .i64 0))), .op (some k61) none (.pick (.s k58) (.c (.b true)) (.s k60))]) (.cond k61 (.seq (.ops [.op (some k2) none (.mov (.c .nil))]) .ret) .skip))))))) (.ops [.op (some k33) none (.mov (.s k7)), .op (some k34) none (.bin .add .num (.s k33) (.c (.i .i64 1))), .op (some k7) none (.mov (.s k34))]))), [.tmp k2]⟩
def tcM (i : Nat) : Nat := 1024 + 64 * i
def tM0 (p : V) : V := .agg [.i .i64 1, p, .i .i64 5, .b false, .i .i64 0, .i .i64 0, .i .i64 0, .i .i64 0, .b false, .b false, .i .i64 0, .i .i64 0, .i .i64 0, .i .i64 0, .i .u64 0, .i .u64 0, .i .u64 0, .i .u64 0, .i .u64 0, .i .u64 0, .i .u64 0, .i .u64 0, .i .u64 0, .i .u64 0, .i .u64 0, .i .u64 0, .i .u64 0, .i .u64 0, .i .u64 0, .i .u64 0]
def hasM (j : Nat) : Bool := Nat.beq (Nat.mod j 2) 1
def prV (j : Nat) : V := bif hasM j then .si .i64 (.v 4) else .i .i64 0
def a0 (b : Bool) : V := bif b then .snil else .fs q1 0
def o0 (b : Bool) (l : List V) : O := bif b then .dead else .row 0 1 (.v 1) (.v 2) l
def o1 (z : Nat) : O := match z with
 | 0 => .dead
 | z + 1 => .row 1 (z + 1) (.v 11) (.v 12) []
def a1 (z : Nat) : V := bif Nat.beq z 0 then .snil else .fs q2 1
def n3 (x : Bool) : Ev.P := bif x then q4 else q3
def n4 (x : Bool) : Ev.P := bif x then q5 else q4
def n5 (x : Bool) : Ev.P := bif x then q6 else q5
def n6 (x : Bool) : Ev.P := bif x then q7 else q6
def n7 (x : Bool) : Ev.P := bif x then q8 else q7
def n8 (x : Bool) : Ev.P := bif x then q9 else q8
def bsM (x b : Bool) (z : Nat) (l : List V) : PT O := bif x then (((PT.e : PT O).set q1 (o0 b l)).set q2 (o1 z)).set q3 (.cells 51 [a0 b, a1 z, .si .i64 (.v 20), .sb (.v 0)]) else ((PT.e : PT O).set q1 (o0 b l)).set q2 (o1 z)
def hM (x b : Bool) (z j : Nat) : H := ⟨n7 x, n3 x, ((((bsM x b z (bif hasM j then [.si .i64 (.v 3)] else [])).set (n3 x) (.oa 33 100 2048 13 .nil)).set (n4 x) (.cells 98 [.sl (n3 x) 0 2048 2048, .si .i64 (.v 5)])).set (n5 x) (.oa 33 200 2048 13 .nil)).set (n6 x) (.cells 96 [.sl (n5 x) 0 2048 2048, .si .i64 (.v 6)])⟩
def frM (x b : Bool) : List (Ky × V) := [(k0, a0 b), (k3, .ptr (n4 x) 0), (k5, .ptr (n6 x) 0), (k7, .si .i64 (.v 2))]
def stM (x b : Bool) (z j : Nat) : GS := ⟨frM x b, hM x b z j⟩
def nxM (i : Nat) (σ : Sg) : List (Nat × Sg) := bif Nat.beq i 8 then [(16, σ)] else [(2 * i, σ), (2 * i + 1, σ)]
def sgM : Sg := sgL [(1, .v 1), (20, .v 20), (11, .v 11), (2, .op .add .i64 (.v 2) (.lit 1)), (5, .op .add .i64 (.v 5) (.v 310)), (6, .op .add .i64 (.v 6) (.v 311)), (100100, .lit 101), (100200, .lit 201)]
def sgM0 : Sg := sgL [(1, .v 1), (20, .v 20), (11, .v 11), (2, .lit 0), (5, .lit 0), (6, .lit 0), (100100, .lit 150), (100200, .lit 250)]
def sgMF : Sg := sgL [(1, .v 1), (20, .v 20), (11, .v 11), (5, .v 5), (6, .v 6), (100100, .lit 100), (100200, .lit 200)]
def esMp (j : Nat) : List Ent := [⟨28, [.i .i64 (.ofNat (tcM (Nat.div j 2))), tM0 (prV j)], 101, .i .i64 0, .v 310⟩]
def esMr (j : Nat) : List Ent := [⟨29, [.i .i64 (.ofNat (tcM (Nat.div j 2))), tM0 (prV j)], 201, .i .i64 0, .v 311⟩]
def psM (j : Nat) : List PEnt := ⟨10, [.si .i64 (.v 2)], .i .i64 (.ofNat (tcM (Nat.div j 2)))⟩ :: (bif hasM j then [⟨17, [.si .i64 (.v 3)], .si .i64 (.v 4)⟩] else [])
def fM (b : Bool) (j : Nat) : List (SB × Bool) := (.cmp .lss (.v 2) (.lit 8), true) :: (bif b then [(.cmp .lss (.v 2) (.lit 0), false)] else [(.cmp .lss (.v 2) (.v 1), hasM j)])
def cxMd (j : Nat) : Cx := cxM (cxM cx0 cP 100 (esMp j) (psM j)) cR 200 (esMr j) []
def gM (j : Nat) : Ctx := ⟨callT (cxMd j) 20, 9, 20000⟩
def gM0 : Ctx := ⟨callT cx0 20, 9, 20000⟩
def goM (x b : Bool) (z j : Nat) : Nat := runZ (stM x b z) qm.x (zOut qm.z (gM j) ko1) (gM j) j ⟨fM b j, []⟩ (nxM (Nat.div j 2 + 1) sgM)
def tMF (x b : Bool) (z : Nat) : PT O := (((((bsM x b z []).set (n3 x) (.oa 33 100 2048 13 .nil)).set (n4 x) (.cells 98 [.sl (n3 x) 0 2048 2048, .si .i64 (.v 5)])).set (n5 x) (.oa 33 200 2048 13 .nil)).set (n6 x) (.cells 96 [.sl (n5 x) 0 2048 2048, .si .i64 (.v 6)])).set (n7 x) (.cells 32 [.ptr (n4 x) 0, .ptr (n6 x) 0])
def hM0 (x b : Bool) (z : Nat) : H := ⟨n3 x, q3, bsM x b z []⟩
def hMF (x b : Bool) (z : Nat) : H := ⟨n8 x, q3, tMF x b z⟩
def hM0r (x b : Bool) (z : Nat) : H := ⟨n3 x, n3 x, bsM x b z []⟩
def hMFr (x b : Bool) (z : Nat) : H := ⟨n8 x, n3 x, tMF x b z⟩
def outM (x b : Bool) (z : Nat) : Nat := runZ (stM x b z) qm.x (zOut qm.z gM0 (koM qm.rs (.ptr (n7 x) 0) (hMFr x b z) sgMF)) gM0 16 ⟨[(.cmp .lss (.v 2) (.lit 8), false)], []⟩ []
def rowsB (h : H) : Bool := hc h (fun _ _ t => ptAll (fun _ o => match o with
 | .row q z N I l => vlBeq l [] || (Nat.beq q 0 && Nat.beq z 1 && SE.beq I (.v 2) && vlBeq l [.si .i64 (.v 3)])
 | _ => true) (fun p => p) t)
def inM0 (x : Bool) : CallT := asRow 27 (n5 x) (.arr 33 2048 13 (.i .u64 0) .nil) (.oa 33 250 2048 13 .nil) (asRow 23 (n3 x) (.arr 33 2048 13 (.i .u64 0) .nil) (.oa 33 150 2048 13 .nil) (callT cx0 20))
def inM (x b : Bool) (z : Nat) : Nat := initFr [a0 b] (fun fr => zIn qm.z ⟨inM0 x, 9, 20000⟩ fr (hM0r x b z) ⟨[], []⟩ (fun fr h _ => nextK (stM x b z) (nxM 0 sgM0) fr h) ko1)
theorem qcm : cutX (tyOf Try.prog) dr9 Try.f9 = some qm := by kernel_rfl
def zOk (x b : Bool) (z : Nat) : Bool := allB (fun j => bif b && hasM j then true else Nat.beq (goM x b z j) 0) (rng 16) && Nat.beq (outM x b z) 0 && Nat.beq (inM x b z) 0 && endCk (hM0 x b z) (hMF x b z) && allB (fun j => rowsB (hM x b z j) && (bif hasM j then true else rowU (hM x b z j))) (rng 17) && rowU (hMFr x b z)
theorem z_ok : allB (fun b => zOk false b 0 && (zOk false b 1 && zOk false b 3)) bools = true := by decide +kernel
end Go.Ev.X
end
/-
 What both memories are in the beginning: for each list of priorities.
-/
set_option linter.unusedSimpArgs false
set_option linter.unusedVariables false
set_option maxRecDepth 100000
noncomputable section
namespace Go.Ev.X
open Go Go.Ev Go.Proofs
variable {E : Env} {f : Nat → Int}
def I64 (x : Int) : Prop := -9223372036854775808 ≤ x ∧ x ≤ 9223372036854775807
structure RowI (r : Row) (D : Nat → Int) : Prop where
 esz : r.esz = 1
 c : ∀ i, i < r.len → r.cs[r.off + i]? = some (.int .i64 (D i)) ∧ I64 (D i)
def lowI (x : Int) : Int := x % 256
def thr0 (p : Int) : TV := ⟨1, p, 5, false, 0, 0, 0, 0, false, false, 0, 0, 0, 0⟩
theorem thr0_right {p : Int} (h : 0 ≤ p ∧ p < 256) : (thr0 p).Right := by
 refine ⟨?_, h, ?_, ?_, ?_, ?_, ?_, ?_, ?_, ?_, ?_⟩ <;> simp [thr0]
def prD (n : Nat) (D : Nat → Int) (i : Nat) : Int := if i < n then lowI (D i) else 0
theorem prD_lt (n : Nat) (D : Nat → Int) (i : Nat) : 0 ≤ prD n D i ∧ prD n D i < 256 := by
 unfold prD lowI
 split <;> omega
def madeF (pr : Nat → Int) : Nat → Nat → Int
 | 0 => fun _ => 0
 | i + 1 => setT (madeF pr i) (tcM i) (thr0 (pr i))
theorem madeF_regs (pr : Nat → Int) : ∀ (i t j : Nat), t % 64 = 0 → j < 16 → madeF pr i (t + 32 + j) = 0
 | 0, t, j, h, hj => rfl
 | i + 1, t, j, h, hj => by
  show setT (madeF pr i) (tcM i) _ (t + 32 + j) = 0
  rw [setT_other _ _ (by unfold tcM; omega)]
  exact madeF_regs pr i t j h hj
theorem tcM_tt {i : Nat} (h : i < 8) : TT (tcM i) := by unfold tcM TT; omega
theorem pure1 {F : Nat} {x y : Int} {b : List (SB × Bool)} {s : V} (hr : callS cx0 0 noCall F [.si .i64 (.v 0)] ⟨.h, .h, .e⟩ ⟨b, []⟩ (endV s) = 0) (hb : ∀ E : Env, E.i 0 = x → FsOk E b) (hy : ∀ (E : Env) ρ, E.i 0 = x → s.γ E ρ = .int .i64 y) (W : World) :
  Calls PP F #[.int .i64 x] W fun e w' => e = .returned (.int .i64 y) ∧ RowKit.Below W.heap.size W w' := by
 obtain ⟨E, hE⟩ : ∃ E : Env, E = ⟨fun _ => x, fun _ => false, fun _ => rowF 0 (fun _ => 0)⟩ := ⟨_, rfl⟩
 have e0 : E.i 0 = x := by rw [hE]
 have := val_of_run (hC0 E) noCall_ok (fa_list (l := b) (r := []) (hb E e0) trivial) hr (l := [.si .i64 (.v 0)]) ⟨trivial, trivial⟩ (fun _ => ⟨0, 0⟩) W
 have hargs : (γL E (fun _ => ⟨0, 0⟩) [.si .i64 (.v 0)]).toArray = #[.int .i64 x] := by simp only [γL, V.γ, SE.den, e0]
 rw [hargs] at this
 refine this.mono ?_
 rintro e w' ⟨⟨ρ', rfl⟩, hb⟩
 exact ⟨by rw [hy E ρ' e0], hb⟩
def kR (m : Int) (b : Bool) : SE := bif b then .op .add .i64 (.op .rem .i64 (.v 0) (.lit m)) (.lit m) else .op .rem .i64 (.v 0) (.lit m)
def fR (m : Int) (b : Bool) : SB × Bool := (.cmp .lss (.op .rem .i64 (.v 0) (.lit m)) (.lit 0), b)
theorem low_run : callS cx0 0 noCall 17 [.si .i64 (.v 0)] ⟨.h, .h, .e⟩ ⟨[fR 256 false], []⟩ (endV (.si .i64 (kR 256 false))) = 0 ∧ callS cx0 0 noCall 17 [.si .i64 (.v 0)] ⟨.h, .h, .e⟩ ⟨[fR 256 true], []⟩ (endV (.si .i64 (kR 256 true))) = 0 := by decide +kernel
theorem tcb_run : allB (fun b => Nat.beq (callS cx0 0 noCall 10 [.si .i64 (.v 0)] ⟨.h, .h, .e⟩ ⟨[fR 9 b, (.cmp .eql (kR 9 b) (.lit 8), true)], []⟩ (endV (.i .i64 1056))) 0 &&
  Nat.beq (callS cx0 0 noCall 10 [.si .i64 (.v 0)] ⟨.h, .h, .e⟩ ⟨[fR 9 b, (.cmp .eql (kR 9 b) (.lit 8), false)], []⟩ (endV (.si .i64 (.op .add .i64 (.lit 1024) (.op .mul .i64 (.lit 64) (kR 9 b)))))) 0) bools = true := by decide +kernel
theorem rem_den {x m : Int} (h0 : E.i 0 = x) (hx : I64 x) (hm : 0 < m ∧ m < 1000) : (fR m (decide (x.tmod m < 0))).1.den E = decide (x.tmod m < 0) ∧ (kR m (decide (x.tmod m < 0))).den E = x % m := by
 have e1 : SE.den E (.op .rem .i64 (.v 0) (.lit m)) = x.tmod m := by
  show (E.i 0).tmod m = _
  rw [h0]
 have hb1 := Int.tmod_lt_of_pos x hm.1
 have hb2 := Int.lt_tmod_of_pos x hm.1
 have hsum := Int.mul_tdiv_add_tmod x m
 have key : ∀ y : Int, 0 ≤ y → y < m → ∀ k, x = y + m * k → x % m = y := fun y h1 h2 k h3 => by
  rw [h3, Int.add_mul_emod_self_left]; exact Int.emod_eq_of_lt h1 h2
 refine ⟨?_, ?_⟩
 ·show iLt (SE.den E (.op .rem .i64 (.v 0) (.lit m))) 0 = _
  rw [e1, iLt_eq]
 ·by_cases hn : x.tmod m < 0
  ·rw [decide_eq_true hn]
   show wrapF .i64 (SE.den E (.op .rem .i64 (.v 0) (.lit m)) + m) = _
   rw [e1, wrapF_eq, IntKind.wrap_i64, key (x.tmod m + m) (by omega) (by omega) (x.tdiv m - 1) (by rw [Int.mul_sub, Int.mul_one]; omega)]
   omega
  ·rw [decide_eq_false hn]
   show SE.den E (.op .rem .i64 (.v 0) (.lit m)) = _
   rw [e1, key (x.tmod m) (by omega) hb1 (x.tdiv m) (by omega)]
theorem low_c {x : Int} (hx : I64 x) (W : World) : Calls PP 17 #[.int .i64 x] W fun e w' => e = .returned (.int .i64 (lowI x)) ∧ RowKit.Below W.heap.size W w' := by
 by_cases hn : x.tmod 256 < 0
 ·exact pure1 low_run.2 (fun E h0 => ⟨by have := (rem_den h0 hx (m := 256) (by omega)).1; rw [decide_eq_true hn] at this; exact this, trivial⟩) (fun E ρ h0 => by have := (rem_den h0 hx (m := 256) (by omega)).2; rw [decide_eq_true hn] at this; exact vsi this) W
 ·exact pure1 low_run.1 (fun E h0 => ⟨by have := (rem_den h0 hx (m := 256) (by omega)).1; rw [decide_eq_false hn] at this; exact this, trivial⟩) (fun E ρ h0 => by have := (rem_den h0 hx (m := 256) (by omega)).2; rw [decide_eq_false hn] at this; exact vsi this) W
def tcI (x : Int) : Int := if x % 9 = 8 then 1056 else 1024 + 64 * (x % 9)
theorem tcb_c {x : Int} (hx : I64 x) (W : World) : Calls PP 10 #[.int .i64 x] W fun e w' => e = .returned (.int .i64 (tcI x)) ∧ RowKit.Below W.heap.size W w' := by
 have hr := allB_ok tcb_run (decide (x.tmod 9 < 0)) (b_mem _)
 simp only [Bool.and_eq_true] at hr
 obtain ⟨r1, r2⟩ := hr
 unfold tcI
 by_cases h8 : x % 9 = 8
 ·rw [if_pos h8]
  refine pure1 (Nat.eq_of_beq_eq_true r1) (fun E h0 => ?_) (fun E ρ h0 => rfl) W
  obtain ⟨d1, d2⟩ := rem_den h0 hx (m := 9) (by omega)
  exact ⟨d1, f_eq (by rw [d2]; exact h8), trivial⟩
 ·rw [if_neg h8]
  refine pure1 (Nat.eq_of_beq_eq_true r2) (fun E h0 => ?_) (fun E ρ h0 => vsi ?_) W
  ·obtain ⟨d1, d2⟩ := rem_den h0 hx (m := 9) (by omega)
   exact ⟨d1, f_eqn (by rw [d2]; exact h8), trivial⟩
  ·obtain ⟨d1, d2⟩ := rem_den h0 hx (m := 9) (by omega)
   show wrapF .i64 (1024 + wrapF .i64 (64 * SE.den E (kR 9 (decide (x.tmod 9 < 0))))) = _
   rw [d2, wrapF_eq, wrapF_eq, IntKind.wrap_i64, IntKind.wrap_i64]
   omega
theorem pe1 {F i : Nat} {x y : Int} {v : V} (hca : Callable PP F) (hx : E.i i = x) (hv : ∀ ρ, v.γ E ρ = .int .i64 y) (hbd : v.bd 0) (hc : ∀ W, Calls PP F #[.int .i64 x] W fun e w' => e = .returned (.int .i64 y) ∧ RowKit.Below W.heap.size W w') : PEntOk PP E ⟨F, [.si .i64 (.v i)], v⟩ :=
 ⟨hbd, hca, fun ρ w => by
  have hargs : (γL E ρ [.si .i64 (.v i)]).toArray = #[.int .i64 x] := by simp only [γL, V.γ, SE.den, hx]
  rw [hargs]
  refine (hc w).mono ?_
  rintro e w' ⟨rfl, hb⟩
  exact ⟨by rw [hv ρ], hb⟩⟩
theorem low_ok {x : Int} (hx : I64 x) (h3 : E.i 3 = x) (h4 : E.i 4 = lowI x) : PEntOk PP E ⟨17, [.si .i64 (.v 3)], .si .i64 (.v 4)⟩ := pe1 Try.call17 h3 (fun ρ => vsi h4) trivial (low_c hx)
theorem tcb_ok {i : Nat} (hi : i < 8) (h2 : E.i 2 = (i : Int)) : PEntOk PP E ⟨10, [.si .i64 (.v 2)], .i .i64 (.ofNat (tcM i))⟩ :=
 pe1 Try.call10 h2 (y := (tcM i : Nat)) (fun ρ => rfl) trivial fun W => by
  have := tcb_c (x := (i : Int)) (by unfold I64; omega) W
  have e : tcI (i : Int) = ((tcM i : Nat) : Int) := by unfold tcI tcM; rw [if_neg (by omega)]; omega
  rw [e] at this; exact this
end Go.Ev.X
end
/-
 What both memories are in the beginning: the call.
-/
set_option linter.unusedSimpArgs false
set_option linter.unusedVariables false
set_option maxRecDepth 100000
noncomputable section
namespace Go.Ev.X
open Go Go.Ev Go.Proofs
variable {E E1 : Env} {f : Nat → Int}
def nP (b : Bool) (r : Row) : Nat := bif b then 0 else r.len
def madeW (b : Bool) (r : Row) (D : Nat → Int) (i : Nat) : Nat → Int := madeF (prD (nP b r) D) i
structure MadeE (b : Bool) (D : Nat → Int) (E : Env) : Prop where
 i5 : E.i 5 = 160
 i6 : E.i 6 = 160
 p : (E.s 100).cs = wordsA 2048 (madeW b (E.s 0) D 8)
 r : (E.s 200).cs = wordsA 2048 (madeW b (E.s 0) D 8)
 k1 : E.i 100100 = 100
 k2 : E.i 100200 = 200
 zp : (E.s 150).cs = wordsA 2048 (fun _ => 0)
 zr : (E.s 250).cs = wordsA 2048 (fun _ => 0)
 d : b = false → RowI (E.s 0) D
structure InvM (b : Bool) (D : Nat → Int) (E1 : Env) (m j : Nat) (E : Env) : Prop where
 le : j / 2 ≤ 8
 m : m + j / 2 = 8
 e : j / 2 = 8 → j = 16
 i1 : E.i 1 = E1.i 1
 i11 : E.i 11 = E1.i 11
 i20 : E.i 20 = E1.i 20
 eb : E.b = E1.b
 s : ∀ q, q < 50 → rowSame (E1.s q) (E.s q)
 i2 : E.i 2 = ((j / 2 : Nat) : Int)
 i5 : E.i 5 = ((20 * (j / 2) : Nat) : Int)
 i6 : E.i 6 = ((20 * (j / 2) : Nat) : Int)
 p : (E.s 100).cs = wordsA 2048 (madeW b (E1.s 0) D (j / 2))
 r : (E.s 200).cs = wordsA 2048 (madeW b (E1.s 0) D (j / 2))
 x0 : j / 2 < 8 → E.i 310 = 20
 x1 : j / 2 < 8 → E.i 311 = 20
 p1 : j / 2 < 8 → (E.s 101).cs = wordsA 2048 (madeW b (E1.s 0) D (j / 2 + 1))
 r1 : j / 2 < 8 → (E.s 201).cs = wordsA 2048 (madeW b (E1.s 0) D (j / 2 + 1))
 nb : j / 2 < 8 → b = true → hasM j = false
 go : j / 2 < 8 → EntsOk PP cP E 100 (esMp j) ∧ EntsOk PP cR E 200 (esMr j) ∧ PsOk PP E (psM j) ∧ FsOk E (fM b j)
theorem hasM_e (i : Nat) : hasM (2 * i) = false := by
 unfold hasM
 rw [show Nat.mod (2 * i) 2 = 0 by show 2 * i % 2 = 0; omega]; rfl
theorem hasM_o (i : Nat) : hasM (2 * i + 1) = true := by
 unfold hasM
 rw [show Nat.mod (2 * i + 1) 2 = 1 by show (2 * i + 1) % 2 = 1; omega]; rfl
theorem rowsB_ok {h : H} (hr : rowsB h = true) (h2 : E.i 2 = (E.s 0).idx) (hx : (∃ p o, h.t.get p = some o ∧ ∃ N, o = .row 0 1 N (.v 2) [.si .i64 (.v 3)]) → (E.s 0).idx < (E.s 0).len ∧ (E.s 0).cs[(E.s 0).off + (E.s 0).idx]? = some (.int .i64 (E.i 3))) : ∀ p o, h.t.get p = some o → RowEl E o := by
 intro p o hp
 have hr0 := hr
 unfold rowsB at hr
 rw [hc_eq] at hr
 have := ptAll_ok _ _ p o hr hp
 cases o with
 | row q z N I l =>
  simp only [Bool.or_eq_true, Bool.and_eq_true, Nat.beq_eq] at this
  rcases this with h1 | ⟨⟨⟨rfl, rfl⟩, hI⟩, hl⟩
  ·have := vlBeq_ok h1
   subst this
   exact fun h => absurd rfl h
  ·have hI := SE.beq_eq hI
   have hl := vlBeq_ok hl
   subst hI; subst hl
   obtain ⟨g1, g2⟩ := hx ⟨p, _, hp, N, rfl⟩
   intro _
   refine ⟨h2, g1, rfl, fun ρ i hi => ?_⟩
   have : i = 0 := by simpa using hi
   subst this
   rw [Nat.mul_one, Nat.add_zero, g2]; rfl
 | _ => trivial
theorem leadM {x b : Bool} {D : Nat → Int} {z i q r m : Nat} {σ : Sg} (hz : zOk x b z = true) (hi : i ≤ 8) (hm : 8 < m + i) (hd : b = false → RowI (E1.s 0) D) (hlen : b = false → E1.i 1 = (E1.s 0).len) (e1 : E.i 1 = E1.i 1) (e11 : E.i 11 = E1.i 11) (e20 : E.i 20 = E1.i 20) (eb : E.b = E1.b) (es : ∀ q, q < 50 → rowSame (E1.s q) (E.s q))
  (g1 : σ 1 = some (.v 1)) (g11 : σ 11 = some (.v 11)) (g20 : σ 20 = some (.v 20)) {s2 s5 s6 : SE} (g2 : σ 2 = some s2) (h2 : s2.den E = (i : Int)) (g5 : σ 5 = some s5) (h5 : s5.den E = ((20 * i : Nat) : Int)) (g6 : σ 6 = some s6) (h6 : s6.den E = ((20 * i : Nat) : Int)) (gp : σ 100100 = some (.lit (.ofNat q))) (gr : σ 100200 = some (.lit (.ofNat r)))
  (n3 : σ 3 = none) (n4 : σ 4 = none) (np : σ 310 = none) (nr : σ 311 = none) (n101 : σ 100101 = none) (n201 : σ 100201 = none) (hp : (E.s q).cs = wordsA 2048 (madeW b (E1.s 0) D i)) (hr : (E.s r).cs = wordsA 2048 (madeW b (E1.s 0) D i)) :
  Leads (stM x b z) (InvM b D E1) E (nxM i σ) m := by
 intro _
 obtain ⟨vs, hvs⟩ : ∃ vs : Nat → Int, vs = fun k => if k = 3 then D i else if k = 4 then lowI (D i) else 20 := ⟨_, rfl⟩
 have t := nxA_tr σ E (i : Int) vs (fun _ => rowF 2048 (madeW b (E1.s 0) D (i + 1)))
 obtain ⟨E', hE'⟩ : ∃ E', E' = nxA σ E (i : Int) vs (fun _ => rowF 2048 (madeW b (E1.s 0) D (i + 1))) := ⟨_, rfl⟩
 rw [← hE'] at t
 have fr0 : ∀ k, σ k = none → E'.i k = vs k := fun k hk => by rw [hE']; simp [nxA, hk]
 have i2 : E'.i 2 = (i : Int) := (t.i 2 _ g2).trans h2
 have i3 : E'.i 3 = D i := by rw [fr0 3 n3, hvs]; rfl
 have i4 : E'.i 4 = lowI (D i) := by rw [fr0 4 n4, hvs]; rfl
 have ip : E'.i 310 = 20 := by rw [fr0 310 np, hvs]; rfl
 have ir : E'.i 311 = 20 := by rw [fr0 311 nr, hvs]; rfl
 have sq : ∀ q, E'.s q = nxS σ E (i : Int) (fun _ => rowF 2048 (madeW b (E1.s 0) D (i + 1))) q := fun q => by rw [hE']; rfl
 have s0 : E'.s 0 = { E.s 0 with idx := i } := by rw [sq]; rfl
 have s100 : (E'.s 100).cs = wordsA 2048 (madeW b (E1.s 0) D i) := by
  rw [sq]; unfold nxS
  rw [if_neg (by omega), show 100000 + 100 = 100100 from rfl, gp]; exact hp
 have s200 : (E'.s 200).cs = wordsA 2048 (madeW b (E1.s 0) D i) := by
  rw [sq]; unfold nxS
  rw [if_neg (by omega), show 100000 + 200 = 100200 from rfl, gr]; exact hr
 have s101 : E'.s 101 = rowF 2048 (madeW b (E1.s 0) D (i + 1)) := by
  rw [sq]; unfold nxS
  rw [if_neg (by omega), show 100000 + 101 = 100101 from rfl, n101]
 have s201 : E'.s 201 = rowF 2048 (madeW b (E1.s 0) D (i + 1)) := by
  rw [sq]; unfold nxS
  rw [if_neg (by omega), show 100000 + 201 = 100201 from rfl, n201]
 have r0 := es 0 (by omega)
 have hzr : ∀ j, j < 17 → rowsB (hM x b z j) = true := by
  unfold zOk at hz
  simp only [Bool.and_eq_true] at hz
  intro j hj
  have := rng_ok hz.1.2 j hj
  simp only [Bool.and_eq_true] at this
  exact this.1
 have hzu : ∀ j, j < 17 → hasM j = false → rowU (hM x b z j) = true := by
  unfold zOk at hz
  simp only [Bool.and_eq_true] at hz
  intro j hj hm
  have := rng_ok hz.1.2 j hj
  simp only [Bool.and_eq_true, hm, cond_false] at this
  exact this.2
 have hes : ∀ q, q < 50 → rowSame (E1.s q) (E'.s q) := fun q hq => by
  have a := es q hq
  have b := t.s q hq
  exact ⟨a.1.trans b.1.symm, a.2.1.trans b.2.1.symm, a.2.2.1.trans b.2.2.1.symm, a.2.2.2.1.trans b.2.2.2.1.symm, a.2.2.2.2.1.trans b.2.2.2.2.1.symm, a.2.2.2.2.2.1.trans b.2.2.2.2.2.1.symm, a.2.2.2.2.2.2.1.trans b.2.2.2.2.2.2.1.symm, a.2.2.2.2.2.2.2.trans b.2.2.2.2.2.2.2.symm⟩
 have mk : ∀ j, j / 2 = i → (j / 2 = 8 → j = 16) → (b = true → hasM j = false) → (i < 8 → EntsOk PP cP E' 100 (esMp j) ∧ EntsOk PP cR E' 200 (esMr j) ∧ PsOk PP E' (psM j) ∧ FsOk E' (fM b j)) → InvM b D E1 (8 - i) j E' := fun j hj he hnb hgo =>
  ⟨by omega, by omega, he, (t.i 1 _ g1).trans e1, (t.i 11 _ g11).trans e11, (t.i 20 _ g20).trans e20, t.b.trans eb, hes, by rw [hj]; exact i2, by rw [hj]; exact (t.i 5 _ g5).trans h5, by rw [hj]; exact (t.i 6 _ g6).trans h6, by rw [hj]; exact s100, by rw [hj]; exact s200, fun _ => ip, fun _ => ir, fun _ => by rw [hj, s101]; rfl, fun _ => by rw [hj, s201]; rfl, fun _ => hnb, fun h => hgo (by omega)⟩
 by_cases h8 : i = 8
 ·refine ⟨16, σ, 8 - i, E', ?_, by omega, mk 16 (by omega) (fun _ => rfl) (fun _ => rfl) (fun h => by omega), t, ?_⟩
  ·unfold nxM
   rw [show Nat.beq i 8 = true by simpa using h8]; simp
  ·refine rowsB_ok (hzr 16 (by omega)) (by rw [i2, s0]) fun ⟨p, o, hp, N, he⟩ => ?_
   exfalso
   have hp := hp
   rw [he] at hp
   have hk := hzu 16 (by omega) rfl
   have := rowU_ok (E := ⟨fun _ => 0, fun _ => false, fun _ => ⟨0, 0, 0, 0, 0, 0, 0, #[], (0, 0)⟩⟩) hk p _ hp
   have := (this (by simp)).2.1
   exact absurd this (by show ¬ ((0 : Nat) < 0); omega)
 ·have hi8 : i < 8 := by omega
  have hne : Nat.beq i 8 = false := by rw [Bool.eq_false_iff]; simpa using h8
  have ht := tcM_tt hi8
  have hpr := prD_lt (nP b (E1.s 0)) D i
  have hv := thr0_right hpr
  have cp := sth_p (f := madeW b (E1.s 0) D i) ht hv
  have cr := sth_r (f := madeW b (E1.s 0) D i) ht hv
  have hreg : ∀ k, k < 16 → regs (madeW b (E1.s 0) D i) (tcM i) k = 0 := fun k hk => madeF_regs _ i (tcM i) k (by unfold tcM; omega) hk
  have w100 : WordsIs (E'.s 100).cs 2048 (madeW b (E1.s 0) D i) := by rw [s100]; exact wordsA_is _ _
  have w200 : WordsIs (E'.s 200).cs 2048 (madeW b (E1.s 0) D i) := by rw [s200]; exact wordsA_is _ _
  have w101 : WordsIs (E'.s 101).cs 2048 (setT (madeW b (E1.s 0) D i) (tcM i) (thr0 (prD (nP b (E1.s 0)) D i))) := by rw [s101]; exact wordsA_is _ _
  have w201 : WordsIs (E'.s 201).cs 2048 (setT (madeW b (E1.s 0) D i) (tcM i) (thr0 (prD (nP b (E1.s 0)) D i))) := by rw [s201]; exact wordsA_is _ _
  have ents : ∀ j, j / 2 = i → (∀ ρ, (prV j).γ E' ρ = .int .i64 (prD (nP b (E1.s 0)) D i)) → EntsOk PP cP E' 100 (esMp j) ∧ EntsOk PP cR E' 200 (esMr j) := fun j hj hpv => by
   have hargs : ∀ ρ, γL E' ρ [.i .i64 (.ofNat (tcM (Nat.div j 2))), tM0 (prV j)] = [.int .i64 (tcM i), thV (thr0 (prD (nP b (E1.s 0)) D i)) (regs (madeW b (E1.s 0) D i) (tcM i))] := fun ρ => by
    rw [show Nat.div j 2 = i from hj]
    refine arg2 rfl ?_
    unfold tM0
    simp only [V.γ, γL, hpv ρ, thV, thr0, hreg 0 (by omega), hreg 1 (by omega), hreg 2 (by omega), hreg 3 (by omega), hreg 4 (by omega), hreg 5 (by omega), hreg 6 (by omega), hreg 7 (by omega), hreg 8 (by omega), hreg 9 (by omega), hreg 10 (by omega), hreg 11 (by omega), hreg 12 (by omega), hreg 13 (by omega), hreg 14 (by omega), hreg 15 (by omega)]
   exact ⟨⟨ent_g w100 w101 cp (by omega) ip hargs (fun ρ => rfl), trivial⟩, ⟨ent_g w200 w201 cr (by omega) ir hargs (fun ρ => rfl), trivial⟩⟩
  by_cases hb : b = false ∧ i < (E1.s 0).len
  ·obtain ⟨hb, hlt⟩ := hb
   obtain ⟨c0, c1⟩ := (hd hb).c i hlt
   refine ⟨2 * i + 1, σ, 8 - i, E', ?_, by omega, mk _ (by omega) (fun h => by omega) (fun h => by rw [hb] at h; cases h) (fun _ => ?_), t, ?_⟩
   ·unfold nxM; rw [hne]; simp
   ·have hpd : prD (nP b (E1.s 0)) D i = lowI (D i) := by
     unfold prD nP
     rw [hb]; exact if_pos hlt
    obtain ⟨g, g'⟩ := ents (2 * i + 1) (by omega) fun ρ => by
     unfold prV
     rw [hasM_o, hpd]; exact vsi i4
    refine ⟨g, g', ?_, ?_⟩
    ·unfold psM
     rw [hasM_o, show Nat.div (2 * i + 1) 2 = i by show (2 * i + 1) / 2 = i; omega]
     exact ⟨tcb_ok hi8 i2, low_ok c1 i3 i4, trivial⟩
    ·unfold fM
     rw [hb, hasM_o]
     exact ⟨f_lt (show E'.i 2 < 8 by omega), f_lt (show E'.i 2 < E'.i 1 by rw [t.i 1 _ g1]; show _ < E.i 1; rw [e1, hlen hb]; omega), trivial⟩
   ·refine rowsB_ok (hzr _ (by omega)) (by rw [i2, s0]) fun _ => ?_
    rw [s0, i3]
    show i < (E.s 0).len ∧ (E.s 0).cs[(E.s 0).off + i]? = _
    rw [← r0.2.2.1, ← r0.2.1, ← r0.2.2.2.2.2.2.1]
    exact ⟨hlt, c0⟩
  ·refine ⟨2 * i, σ, 8 - i, E', ?_, by omega, mk _ (by omega) (fun h => by omega) (fun _ => hasM_e i) (fun _ => ?_), t, ?_⟩
   ·unfold nxM; rw [hne]; simp
   ·have hpd : prD (nP b (E1.s 0)) D i = 0 := by
     unfold prD nP
     cases b with
     | true => exact if_neg (by show ¬ i < 0; omega)
     | false => exact if_neg (fun h => hb ⟨rfl, h⟩)
    obtain ⟨g, g'⟩ := ents (2 * i) (by omega) fun ρ => by
     unfold prV
     rw [hasM_e, hpd]; rfl
    refine ⟨g, g', ?_, ?_⟩
    ·unfold psM
     rw [hasM_e, show Nat.div (2 * i) 2 = i by show (2 * i) / 2 = i; omega]
     exact ⟨tcb_ok hi8 i2, trivial⟩
    ·unfold fM
     rw [hasM_e]
     cases b with
     | true => exact ⟨f_lt (show E'.i 2 < 8 by omega), f_ltn (show 0 ≤ E'.i 2 by omega), trivial⟩
     | false => exact ⟨f_lt (show E'.i 2 < 8 by omega), f_ltn (show E'.i 1 ≤ E'.i 2 by rw [t.i 1 _ g1]; show E.i 1 ≤ _; rw [e1, hlen rfl]; have : ¬ i < (E1.s 0).len := fun h => hb ⟨rfl, h⟩; omega), trivial⟩
   ·refine rowsB_ok (hzr _ (by omega)) (by rw [i2, s0]) fun ⟨p, o, hp, N, he⟩ => ?_
    exfalso
    rw [he] at hp
    have hk := hzu (2 * i) (by omega) (hasM_e i)
    have := rowU_ok (E := ⟨fun _ => 0, fun _ => false, fun _ => ⟨0, 0, 0, 0, 0, 0, 0, #[], (0, 0)⟩⟩) hk p _ hp
    have := (this (by simp)).2.1
    exact absurd this (by show ¬ ((0 : Nat) < 0); omega)
def mdM (x b : Bool) (z : Nat) : Memo := ⟨9, [a0 b], hM0 x b z, .ptr (n7 x) 0, hMF x b z⟩
theorem bsM_q1 {x b : Bool} {z : Nat} : (bsM x b z []).get q1 = some (o0 b []) := by
 cases x with
 | false =>
  show (((PT.e : PT O).set q1 (o0 b [])).set q2 (o1 z)).get q1 = _
  rw [PT.get_set_other _ _ _ _ (fun e => by cases e), PT.get_set_same]
 | true =>
  show ((((PT.e : PT O).set q1 (o0 b [])).set q2 (o1 z)).set q3 (.cells 51 [a0 b, a1 z, .si .i64 (.v 20), .sb (.v 0)])).get q1 = _
  rw [PT.get_set_other _ _ _ _ (fun e => by cases e), PT.get_set_other _ _ _ _ (fun e => by cases e), PT.get_set_same]
theorem inM0_ok {x : Bool} (h1 : (E.s 150).cs = wordsA 2048 (fun _ => 0)) (h2 : (E.s 250).cs = wordsA 2048 (fun _ => 0)) : CallOk E PP (inM0 x) := by
 have z0 : ∀ q, (E.s q).cs = wordsA 2048 (fun _ => 0) → WordsIs (E.s q).cs 2048 (trF .nil) := fun q hq => by
  have : trF .nil = fun _ => 0 := funext fun i => by unfold trF trAt; rw [Tr.get_nil]; rfl
  rw [hq, this]; exact wordsA_is _ _
 have hl : ∀ q, (∀ ρ L hp, (O.arr 33 2048 13 (.i .u64 0) .nil).Is E ρ L hp → WordsIs (E.s q).cs 2048 (trF .nil) → (O.oa 33 q 2048 13 .nil).Is E ρ L hp) := fun q ρ L hp h hw => arr_row rfl hw ρ L hp h
 exact asRow_ok (asRow_ok (callT_run (hC0 E) 20) rfl (fun ρ L hp h => hl 150 ρ L hp h (z0 150 h1)) (oaNil_bd _ _ _ _)) rfl (fun ρ L hp h => hl 250 ρ L hp h (z0 250 h2)) (oaNil_bd _ _ _ _)
theorem made_run {x b : Bool} {z : Nat} (hz : zOk x b z = true) {D : Nat → Int} (h : MadeE b D E) {ρ : Rho} {w : World} (hs : Sat E ρ (hM0r x b z) w) :
  Calls PP 9 (γL E ρ [a0 b]).toArray w fun e w' => ∃ ρ', e = .returned ((V.ptr (n7 x) 0).γ E ρ') ∧ Wd w (n3 x) ρ' (hMFr x b z) w' ∧ Sat E ρ' (hMFr x b z) w' := by
 have hz0 := hz
 unfold zOk at hz
 simp only [Bool.and_eq_true] at hz
 obtain ⟨⟨⟨⟨⟨hgo, hout⟩, hin⟩, hck⟩, _⟩, hfu⟩ := hz
 have hlen : b = false → E.i 1 = (E.s 0).len := fun hb => by
  subst hb
  have := hs.obj q1 _ bsM_q1
  exact this.2.2.2.1
 refine cutM_law tyOk_tyOf mixedX Try.func9 qcm w9 (st := stM x b z) (Inv := InvM b D E) (fun hrs m j E' hI => ?_) (g0 := ⟨inM0 x, 9, 20000⟩) (inM0_ok h.zp h.zr) FaOk.nil 9
  (leadM hz0 (i := 0) (q := 150) (r := 250) (by omega) (by omega) h.d hlen rfl rfl rfl rfl (fun q _ => ⟨rfl, rfl, rfl, rfl, rfl, rfl, rfl, rfl⟩) rfl rfl rfl (s2 := .lit 0) rfl rfl (s5 := .lit 0) rfl rfl (s6 := .lit 0) rfl rfl rfl rfl rfl rfl rfl rfl rfl rfl h.zp h.zr) (Nat.eq_of_beq_eq_true hin) rfl hs ?_ ?_
 ·by_cases h8 : j / 2 = 8
  ·have hj := hI.e h8
   subst hj
   refine ⟨⟨[(.cmp .lss (.v 2) (.lit 8), false)], []⟩, [], _, gM0, callT_run (hC0 E') 20, fa_list ⟨f_ltn ?_, trivial⟩ trivial, Nat.eq_of_beq_eq_true hout, fun h => absurd rfl h, koM_good tyOk_tyOf hrs w (n3 x) ?_ ?_⟩
   ·show 8 ≤ E'.i 2
    rw [hI.i2]; decide
   ·refine ⟨fun i s hs => ?_, hI.eb.symm, hI.s, fun q q' hq hs => ?_⟩
    ·unfold sgMF at hs
     have : i = 1 ∨ i = 20 ∨ i = 11 ∨ i = 5 ∨ i = 6 ∨ i = 100100 ∨ i = 100200 := by
      by_cases e1 : i = 1
      ·exact .inl e1
      by_cases e0 : i = 20
      ·exact .inr (.inl e0)
      by_cases e2 : i = 11
      ·exact .inr (.inr (.inl e2))
      by_cases e3 : i = 5
      ·exact .inr (.inr (.inr (.inl e3)))
      by_cases e4 : i = 6
      ·exact .inr (.inr (.inr (.inr (.inl e4))))
      by_cases e5 : i = 100100
      ·exact .inr (.inr (.inr (.inr (.inr (.inl e5)))))
      by_cases e6 : i = 100200
      ·exact .inr (.inr (.inr (.inr (.inr (.inr e6)))))
      have n : ∀ {x : Nat}, i ≠ x → Nat.beq i x = false := fun {x} h => by rw [Bool.eq_false_iff]; simpa using h
      simp only [sgL, n e1, n e0, n e2, n e3, n e4, n e5, n e6] at hs
      cases hs
     rcases this with rfl | rfl | rfl | rfl | rfl | rfl | rfl
     ·cases hs; exact hI.i1.symm
     ·cases hs; exact hI.i20.symm
     ·cases hs; exact hI.i11.symm
     ·cases hs; exact h.i5.trans (by show (160 : Int) = E'.i 5; rw [hI.i5]; rfl)
     ·cases hs; exact h.i6.trans (by show (160 : Int) = E'.i 6; rw [hI.i6]; rfl)
     ·cases hs; exact h.k1
     ·cases hs; exact h.k2
    ·have : q = 100 ∨ q = 200 := by
      by_cases e5 : q = 100
      ·exact .inl e5
      by_cases e6 : q = 200
      ·exact .inr e6
      have n : ∀ {x : Nat}, 100000 + q ≠ x → Nat.beq (100000 + q) x = false := fun {x} h => by rw [Bool.eq_false_iff]; simpa using h
      unfold sgMF at hs
      simp only [sgL, n (show 100000 + q ≠ 1 by omega), n (show 100000 + q ≠ 20 by omega), n (show 100000 + q ≠ 11 by omega), n (show 100000 + q ≠ 5 by omega), n (show 100000 + q ≠ 6 by omega), n (show 100000 + q ≠ 100100 by omega), n (show 100000 + q ≠ 100200 by omega)] at hs
      cases hs
     rcases this with rfl | rfl
     ·have : q' = 100 := by
       have hs : some (SE.lit 100) = some (SE.lit (.ofNat q')) := hs
       injection hs with hs; injection hs with hs
       have hs : (100 : Int) = (q' : Int) := hs
       omega
      subst this
      rw [h.p]
      exact hI.p.symm
     ·have : q' = 200 := by
       have hs : some (SE.lit 200) = some (SE.lit (.ofNat q')) := hs
       injection hs with hs; injection hs with hs
       have hs : (200 : Int) = (q' : Int) := hs
       omega
      subst this
      rw [h.r]
      exact hI.r.symm
   ·exact rowU_ok hfu
  ·have hlt : j / 2 < 8 := by have := hI.le; omega
   obtain ⟨e1, e2, e3, e4⟩ := hI.go hlt
   have hgo := rng_ok hgo j (by omega)
   have hbj : (b && hasM j) = false := by
    cases b with
    | false => rfl
    | true =>
     show hasM j = false
     exact hI.nb hlt rfl
   have hgo : (bif b && hasM j then true else Nat.beq (goM x b z j) 0) = true := hgo
   rw [hbj] at hgo
   refine ⟨⟨fM b j, []⟩, nxM (Nat.div j 2 + 1) sgM, ko1, gM j, callT_run (cxM_ok (cxM_ok (hC0 E') e1 (ps_list e3)) e2 (fun e h => by cases h)) 20, fa_list e4 trivial, Nat.eq_of_beq_eq_true hgo, ?_, ko1_good⟩
   have hs1 : E'.s 101 = E'.s 101 := rfl
   refine leadM hz0 (E := E') (E1 := E) (i := j / 2 + 1) (q := 101) (r := 201) (by omega) (by have := hI.m; omega) h.d hlen hI.i1 hI.i11 hI.i20 hI.eb hI.s rfl rfl rfl (s2 := .op .add .i64 (.v 2) (.lit 1)) rfl ?_ (s5 := .op .add .i64 (.v 5) (.v 310)) rfl ?_ (s6 := .op .add .i64 (.v 6) (.v 311)) rfl ?_ rfl rfl rfl rfl rfl rfl rfl rfl ?_ ?_
   ·show wrapF .i64 (E'.i 2 + 1) = _
    rw [hI.i2, wrapF_eq, IntKind.wrap_i64]; omega
   ·show wrapF .i64 (E'.i 5 + E'.i 310) = _
    rw [hI.i5, hI.x0 hlt, wrapF_eq, IntKind.wrap_i64]; omega
   ·show wrapF .i64 (E'.i 6 + E'.i 311) = _
    rw [hI.i6, hI.x1 hlt, wrapF_eq, IntKind.wrap_i64]; omega
   ·exact hI.p1 hlt
   ·exact hI.r1 hlt
 ·cases b with
  | true => exact ⟨trivial, trivial⟩
  | false => exact ⟨by cases x with | false => exact (show (1 : Nat) < 3 by omega) | true => exact (show (1 : Nat) < 4 by omega), trivial⟩
 ·intro p o hp hl hlo
  have h1 := (hs.bd p o hp).1
  have h2 : (hM0r x b z).lo.toNat = (hM0r x b z).n.toNat := rfl
  omega
theorem made_ok {x b : Bool} {z : Nat} (hz : zOk x b z = true) {D : Nat → Int} (h : MadeE b D E) {inner : CallT} (hi : CallOk E PP inner) : CallOk E PP (memo (mdM x b z) inner) := by
 have hz0 := hz
 unfold zOk at hz
 simp only [Bool.and_eq_true] at hz
 exact memoM_ok hi Try.call9 rfl (by cases x with | false => exact (show (3 : Nat) ≤ 3 by omega) | true => exact (show (3 : Nat) ≤ 4 by omega)) hz.1.1.2 rfl (by cases x with | false => exact (show (3 : Nat) ≤ 7 ∧ (7 : Nat) < 8 by omega) | true => exact (show (4 : Nat) ≤ 8 ∧ (8 : Nat) < 9 by omega)) fun ρ w hs => made_run hz0 h hs
end Go.Ev.X
end
