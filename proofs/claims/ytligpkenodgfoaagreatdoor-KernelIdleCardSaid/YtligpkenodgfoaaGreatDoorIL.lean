/-
  KernelIdle, as a claim without its card.
-/
import Derived.Test.YtligpkenodgfoaaGreatDoorRows
import Derived.Test.YtligpkenodgfoaaGreatDoorCards
import Derived.Test.YtligpkenodgfoaaGreatDoorTie
import Derived.Test.YtligpkenodgfoaaGreatDoorLen
import Derived.Test.YtligpkenodgfoaaGreatDoorHcB
import Derived.Test.YtligpkenodgfoaaGreatDoorIJ
import Derived.Test.YtligpkenodgfoaaGreatDoorIF
import Derived.Test.YtligpkenodgfoaaGreatDoorT1
import Derived.Test.YtligpkenodgfoaaGreatDoorT2
import Derived.Test.YtligpkenodgfoaaGreatDoorT3
import Derived.ProofKit
import Derived.OpenShut
import Derived.Lib.SmallJoins
import Derived.Deep.DeepHandedRow
import Derived.Lib.LaidTab
set_option linter.unusedSimpArgs false
set_option linter.unusedVariables false
noncomputable section
namespace Go.Proofs.YtligpkenodgfoaaGreatDoor
open Go Go.Ev Go.Ev.X Go.ChangeShapes Go.WideShapes Go.ChangeAt Go.RowKit
theorem raiseOk {E : Env} : CallOk E Tryz.prog (fun G l h fa k => bc (Nat.beq G 148) (raiseX l h fa k) 1) := by
  refine raise_ok Tryz.call148 fun b p m n i w hp hm hn hi hb => ?_
  have hat : ChipAt w b (BitVec.ofNat 16 p) (BitVec.ofNat 16 m) (BitVec.ofNat 32 n) := by
    unfold ChipAt chipObj
    rw [hb]
    simp only [BitVec.toNat_ofNat, Nat.mod_eq_of_lt (show p < 2 ^ 16 by omega), Nat.mod_eq_of_lt (show m < 2 ^ 16 by omega), Nat.mod_eq_of_lt (show n < 2 ^ 32 by omega)]
  refine (raise_c b _ _ _ (i : Int) w hat).mono ?_
  rintro e w' ⟨he, hc, hk⟩
  refine ⟨?_, ?_, hk.os, hk.tape, hk.output, hk.size, fun k hk1 hk2 => hk.block k hk1 (by simpa using hk2)⟩
  · rw [he, errOf, if_pos ⟨by omega, by omega⟩]
  · unfold ChipAt chipObj at hc
    rw [hc]
    have hbit : (bit (i : Int)).toNat = 2 ^ i := by
      rw [bit, if_pos ⟨by omega, by omega⟩, BitVec.toNat_shiftLeft]
      have : (2 : Nat) ^ i < 2 ^ 16 := Nat.pow_lt_pow_right (by omega) hi
      rw [Int.toNat_natCast, Nat.shiftLeft_eq, show (1#16).toNat = 1 from rfl, Nat.one_mul, Nat.mod_eq_of_lt this]
    simp only [BitVec.toNat_or, hbit, BitVec.toNat_ofNat, Nat.mod_eq_of_lt (show p < 2 ^ 16 by omega), Nat.mod_eq_of_lt (show m < 2 ^ 16 by omega), Nat.mod_eq_of_lt (show n < 2 ^ 32 by omega)]
    rfl
theorem lenOk {E : Env} : LenOk E := ⟨len64_ok Tryz.call176 (fun x w h0 h1 => Tryz.bits_Len64 x w h0 h1), raiseOk⟩
theorem sat_nil {E : Env} (ρ : Rho) (w : World) : Sat E ρ ⟨.h, .h, .e⟩ w :=
  ⟨fun p o hp => absurd (show (none : Option O) = some o from (PT.get_e p).symm.trans hp) (by simp), fun p q o o' hp => absurd (show (none : Option O) = some o from (PT.get_e p).symm.trans hp) (by simp),
   fun p o hp => absurd (show (none : Option O) = some o from (PT.get_e p).symm.trans hp) (by simp)⟩
theorem ext_below {ρ ρ' : Rho} {h' : H} {w w' : World} (x : Ext ρ ⟨.h, .h, .e⟩ w ρ' h' w') : Below w.heap.size w w' :=
  ⟨x.os, x.tape, x.output, x.size, fun b hb => x.keep b hb fun p o hp => absurd (show (none : Option O) = some o from (PT.get_e p).symm.trans hp) (by simp)⟩
/-- what a run that ends well gives -/
theorem law_of_run {E : Env} {F : Nat} {l : List V} {fa : Fa} {inner : CallT} (hi : CallOk E Tryz.prog inner) (hfa : FaOk E fa) (hr : callS cx1 0 inner F l ⟨.h, .h, .e⟩ fa endB = 0) (hl : bdL 1 l) (W : World) :
    Calls Tryz.prog F (γL E (fun _ => ⟨0, 0⟩) l).toArray W fun e w' => e = .returned (.bool true) ∧ Below W.heap.size W w' := by
  obtain ⟨_, v, h', fa', hk, _, hc⟩ := callS_run (cx1_ok lenOk) 0 hi _ _ _ _ _ hr hfa
  obtain ⟨hv, _⟩ := bc_ok (show bc (V.beq v (.b true)) 0 1 = 0 from hk) (by simp)
  have hv := V.beq_ok hv
  subst hv
  refine (hc (fun _ => ⟨0, 0⟩) W hl (sat_nil _ W)).mono ?_
  rintro e w' ⟨ρ', rfl, _, x, _⟩
  exact ⟨rfl, ext_below x⟩
theorem idle_E (E : Env) (W : World) :
    Calls Tryz.prog 6 (γL E (fun _ => ⟨0, 0⟩) argsI).toArray W fun e w' => e = .returned (.bool true) ∧ Below W.heap.size W w' := by
  have hx : CxOk E Tryz.prog (tyOf Tryz.prog) cx1 := cx1_ok lenOk
  have h1 : CallOk E Tryz.prog call1 := call1_ok lenOk
  have hA : CallOk E Tryz.prog callA := callA_ok hx h1
  have hl : bdL 1 argsI := ⟨⟨trivial, trivial, trivial, trivial, trivial⟩, trivial⟩
  by_cases k1 : E.i 0 = 1
  · have hf := faI2 (E := E) k1; exact law_of_run (iIn2_ok hx h1 hA hf) hf i_run2 hl W
  by_cases k5 : E.i 0 = 5
  · have hf := faI3 (E := E) k5; exact law_of_run (iIn3_ok hx h1 hA hf) hf i_run3 hl W
  by_cases k2 : E.i 0 = 2
  · have hk := k2
    by_cases a1 : 0 ≤ E.i 1
    · by_cases a2 : E.i 1 < 65536
      · by_cases a3 : 0 ≤ E.i 2
        · by_cases a4 : E.i 2 < 16
          · have hf := faI8 (E := E) hk a1 a2 a3 a4; exact law_of_run (iIn8_ok hx h1 hA hf) hf i_run8 hl W
          · have hf := faI7 (E := E) hk a1 a2 a3 a4; exact law_of_run (iIn7_ok hx h1 hA hf) hf i_run7 hl W
        · have hf := faI6 (E := E) hk a1 a2 a3; exact law_of_run (iIn6_ok hx h1 hA hf) hf i_run6 hl W
      · have hf := faI5 (E := E) hk a1 a2; exact law_of_run (iIn5_ok hx h1 hA hf) hf i_run5 hl W
    · have hf := faI4 (E := E) hk a1; exact law_of_run (iIn4_ok hx h1 hA hf) hf i_run4 hl W
  by_cases k3 : E.i 0 = 3
  · have hk := k3
    by_cases a1 : 0 ≤ E.i 1
    · by_cases a2 : E.i 1 < 65536
      · by_cases a3 : 0 ≤ E.i 2
        · by_cases a4 : E.i 2 < 16
          · have hf := faI13 (E := E) hk a1 a2 a3 a4; exact law_of_run (iIn13_ok hx h1 hA hf) hf i_run13 hl W
          · have hf := faI12 (E := E) hk a1 a2 a3 a4; exact law_of_run (iIn12_ok hx h1 hA hf) hf i_run12 hl W
        · have hf := faI11 (E := E) hk a1 a2 a3; exact law_of_run (iIn11_ok hx h1 hA hf) hf i_run11 hl W
      · have hf := faI10 (E := E) hk a1 a2; exact law_of_run (iIn10_ok hx h1 hA hf) hf i_run10 hl W
    · have hf := faI9 (E := E) hk a1; exact law_of_run (iIn9_ok hx h1 hA hf) hf i_run9 hl W
  by_cases k4 : E.i 0 = 4
  · by_cases a1 : 0 ≤ E.i 1
    · by_cases a2 : E.i 1 < 16
      · have hf := faI16 (E := E) k4 a1 a2; exact law_of_run (iIn16_ok hx h1 hA hf) hf i_run16 hl W
      · have hf := faI15 (E := E) k4 a1 a2; exact law_of_run (iIn15_ok hx h1 hA hf) hf i_run15 hl W
    · have hf := faI14 (E := E) k4 a1; exact law_of_run (iIn14_ok hx h1 hA hf) hf i_run14 hl W
  by_cases k6 : E.i 0 = 6
  · by_cases a1 : 0 ≤ E.i 1
    · by_cases a2 : E.i 1 < 8
      · rcases (by omega : E.i 1 = 0 ∨ E.i 1 = 1 ∨ E.i 1 = 2 ∨ E.i 1 = 3 ∨ E.i 1 = 4 ∨ E.i 1 = 5 ∨ E.i 1 = 6 ∨ E.i 1 = 7) with a3 | a3 | a3 | a3 | a3 | a3 | a3 | a3
        · have hf := faI19 (E := E) k6 a3; exact law_of_run (iIn19_ok hx h1 hA hf) hf i_run19 hl W
        · have hf := faI20 (E := E) k6 a3; exact law_of_run (iIn20_ok hx h1 hA hf) hf i_run20 hl W
        · have hf := faI21 (E := E) k6 a3; exact law_of_run (iIn21_ok hx h1 hA hf) hf i_run21 hl W
        · have hf := faI22 (E := E) k6 a3; exact law_of_run (iIn22_ok hx h1 hA hf) hf i_run22 hl W
        · have hf := faI23 (E := E) k6 a3; exact law_of_run (iIn23_ok hx h1 hA hf) hf i_run23 hl W
        · have hf := faI24 (E := E) k6 a3; exact law_of_run (iIn24_ok hx h1 hA hf) hf i_run24 hl W
        · have hf := faI25 (E := E) k6 a3; exact law_of_run (iIn25_ok hx h1 hA hf) hf i_run25 hl W
        · have hf := faI26 (E := E) k6 a3; exact law_of_run (iIn26_ok hx h1 hA hf) hf i_run26 hl W
      · have hf := faI18 (E := E) k6 a1 a2; exact law_of_run (iIn18_ok hx h1 hA hf) hf i_run18 hl W
    · have hf := faI17 (E := E) k6 a1; exact law_of_run (iIn17_ok hx h1 hA hf) hf i_run17 hl W
  by_cases k7 : E.i 0 = 7
  · by_cases a1 : 0 ≤ E.i 2
    · by_cases a2 : E.i 2 < 16
      · have hf := faI29 (E := E) k7 a1 a2; exact law_of_run (iIn29_ok hx h1 hA hf) hf i_run29 hl W
      · have hf := faI28 (E := E) k7 a1 a2; exact law_of_run (iIn28_ok hx h1 hA hf) hf i_run28 hl W
    · have hf := faI27 (E := E) k7 a1; exact law_of_run (iIn27_ok hx h1 hA hf) hf i_run27 hl W
  have hf := faI1 (E := E) k1 k2 k3 k4 k5 k6 k7; exact law_of_run (iIn1_ok hx h1 hA hf) hf i_run1 hl W
theorem trodAll_stays {H : Type} {enc : TypeId × Value → H} {P : Program} (hl : laidOutB P = true) {W W' : World} (hb : Below W.heap.size W W') :
    ∀ (ts : List TypeId) (vs : List Value) (ds : List (DataW H)) (ps : List MemPlace), (∀ t ∈ ts, P.readableRec t = true ∧ t < P.types.size) →
    DataW.TrodAll enc P W 0 (fun _ => true) true ts vs ds ps → (∀ x ∈ ps, x.block < W.heap.size) → DataW.TrodAll enc P W' 0 (fun b => decide (b < W.heap.size)) true ts vs ds ps := by
  intro ts
  induction ts with
  | nil =>
    intro vs ds ps _ h _
    obtain ⟨rfl, rfl, rfl⟩ := trodAll_nil h
    exact trodAll_mk0
  | cons t ts ih =>
    intro vs ds ps hr h hlt
    obtain ⟨v0, vs0, d0, ds0, p0, q0, rfl, rfl, rfl, h0, r0⟩ := trodAll_cons h
    have h1 := hr t (by simp)
    exact trodAll_cons_mk (Below.trod hl h1.1 h1.2 h0 hb (fun x hx => hlt x (by simp [hx]))) (ih _ _ _ (fun t' ht' => hr t' (by simp [ht'])) r0 (fun x hx => hlt x (by simp [hx])))

theorem law_post {H : Type} {enc : TypeId × Value → H} {P : Program} {f : Func} {s : ChangeSpec} {W W' : World} {args : Array Value} {ds gs : List (DataW H)} {before : List MemPlace} {tb : TypeId}
    (hl : laidOutB P = true) (hr : ∀ t ∈ f.params.toList, P.readableRec t = true ∧ t < P.types.size) (hvars : s.vars = []) (hres : f.resultTypes = #[tb]) (htb : P.underlying tb = some .bool)
    (hW : DataW.Whole enc P f.params.toList s.vars false W args.toList ds gs before) (hb : Below W.heap.size W W')
    (hfn : s.fn H (ds ++ gs) = { results := [.lit (.bool true)], args := ds }) :
    s.post enc P f false true false false W args (.bool true) W' := by
  have hW0 := hW
  obtain ⟨p, q, hA, hV, hpq, hfz, hnd⟩ := hW
  refine ⟨ds, gs, before, [], p, [], hW0, ?_, ?_, ?_, hb.frame _, fun h => by cases h⟩
  · rw [hfn, hres]
    exact trodAll_cons_mk (shut_bool htb true) trodAll_mk0
  · rw [hfn]
    refine trodAll_stays hl hb _ _ _ _ hr hA (fun x hx => ?_)
    exact hW0.lt x (by rw [hpq]; simp [hx])
  · rw [hvars, hfn]
    rfl
theorem idle_any (W : World) (a b c d : Int) :
    Calls Tryz.prog 6 #[.agg #[.int .i64 a, .int .i64 b, .int .i64 c, .int .u64 d]] W fun e w' => e = .returned (.bool true) ∧ Below W.heap.size W w' := by
  obtain ⟨E, hE⟩ : ∃ E : Env, E = ⟨fun i => if i = 0 then a else if i = 1 then b else if i = 2 then c else d, fun _ => false, fun _ => ⟨0, 0, 0, 0, 0, 0, 0, #[], (0, 0)⟩⟩ := ⟨_, rfl⟩
  have := idle_E E W
  have hargs : (γL E (fun _ => ⟨0, 0⟩) argsI).toArray = #[.agg #[.int .i64 a, .int .i64 b, .int .i64 c, .int .u64 d]] := by
    rw [hE]
    rfl
  rw [hargs] at this
  exact this
theorem own : ownKnob Tryz.prog.godebug = none := by kernel_rfl
theorem laidOut : laidOutB Tryz.prog = true := by kernel_rfl
set_option maxRecDepth 100000 in
theorem contract (H : Type) (enc : TypeId × Value → H) (W : World) (base : Nat) (args : Array Value) (ds gs : List (DataW H)) (before : List MemPlace)
    (hval0 : ∀ (j : Nat) t v, Tryz.f6.params[j]? = some t → args[j]? = some v → Value.okWide Tryz.prog W .any base t v)
    (hW : DataW.Whole enc Tryz.prog Tryz.f6.params.toList Rows.kernelIdleSpec.vars false W args.toList ds gs before) (hL : laidMetH Tryz.prog Rows.kernelIdleRow.laid W) :
    Calls Tryz.prog 6 args W fun e W' => ∃ v, e = .returned v ∧ Rows.kernelIdleSpec.post enc Tryz.prog Tryz.f6 false true false false W args v W' := by
  have hval := hval0
  have hW' := hW
  obtain ⟨p, q, hA0, hV, rfl, hfz, hnd⟩ := hW
  have hA : DataW.TrodAll enc Tryz.prog W 0 (fun _ => true) true Tryz.f6.params.toList args.toList ds p := hA0
  rw [Tryz.params6] at hA hval
  obtain ⟨v0, vs0, d0, ds0, p0, q0, hargs, rfl, rfl, h0, r0⟩ := trodAll_cons hA
  obtain ⟨rfl, rfl, rfl⟩ := trodAll_nil r0
  obtain rfl : args = #[v0] := by cases args; simp_all
  obtain ⟨cs, rfl, hsz⟩ := okWide_struct Tryz.underlying48 (hval 0 48 v0 rfl rfl)
  obtain ⟨fuel, hf⟩ := h0
  have hC : Tryz.prog.cellsOf 48 = 4 := by kernel_rfl
  rw [hC] at hsz
  obtain ⟨c0, c1, c2, c3, rfl⟩ := Joins.array4 hsz
  obtain ⟨y0, y1, y2, y3, nn, hx, _, t0, t1, t2, t3⟩ := Joins.trod_struct4 Tryz.underlying48 hf
  have hC3 : Tryz.prog.cellsOf 3 = 1 := by kernel_rfl
  have hC30 : Tryz.prog.cellsOf 30 = 1 := by kernel_rfl
  simp only [Value.cells, hC3, hC30, List.drop, List.take] at t0 t1 t2 t3
  obtain ⟨a0, e0, _, _⟩ := DataW.trod_int Tryz.underlying3 t0
  obtain ⟨a1, e1, _, _⟩ := DataW.trod_int Tryz.underlying3 t1
  obtain ⟨a2, e2, _, _⟩ := DataW.trod_int Tryz.underlying3 t2
  obtain ⟨a3, e3, _, _⟩ := DataW.trod_int Tryz.underlying30 t3
  simp only [List.cons.injEq, and_true] at e0 e1 e2 e3
  subst e0; subst e1; subst e2; subst e3
  obtain ⟨rfl, rfl⟩ := trodVars_none hV
  refine (idle_any W a0 a1 a2 a3).mono fun e W' ⟨he, hk⟩ => ?_
  subst he
  refine ⟨_, rfl, law_post laidOut ?_ rfl rfl Tryz.underlying4 hW' hk rfl⟩
  rw [Tryz.params6]
  intro t ht
  simp only [List.mem_cons, List.not_mem_nil, or_false] at ht
  subst ht
  · exact ⟨by kernel_rfl, of_decide_eq_true (by kernel_rfl)⟩

noncomputable def laidWorld (os : Os) : World :=
  { World.holding Tryz.prog os ⟨#[], #[], []⟩ with heap := (World.holding Tryz.prog os ⟨#[], #[], []⟩).heap.modify 0 fun
      | .cells _ t frozen => .cells #[.int .u8 0, .int .u8 1, .int .u8 28, .int .u8 2, .int .u8 29, .int .u8 14, .int .u8 24, .int .u8 3, .int .u8 30, .int .u8 22, .int .u8 20, .int .u8 15, .int .u8 25, .int .u8 17, .int .u8 4, .int .u8 8, .int .u8 31, .int .u8 27, .int .u8 13, .int .u8 23, .int .u8 21, .int .u8 19, .int .u8 16, .int .u8 7, .int .u8 26, .int .u8 12, .int .u8 18, .int .u8 6, .int .u8 11, .int .u8 5, .int .u8 10, .int .u8 9] t frozen
      | o => o }
theorem laid_met (os : Os) : laidMet Tryz.prog Rows.kernelIdleRow.laid ((laidWorld os).forCall (fun _ _ => 0) ⟨#[], #[Value.agg #[.int .i64 0, .int .i64 0, .int .i64 0, .int .u64 0]], []⟩).memory :=
  laidMet_of_run' 8 (by kernel_rfl) (by kernel_rfl)
theorem reads (os : Os) {H : Type} (enc : TypeId × Value → H) : ∃ places, DataW.whole enc Tryz.prog ((laidWorld os).forCall (fun _ _ => 0) ⟨#[], #[Value.agg #[.int .i64 0, .int .i64 0, .int .i64 0, .int .u64 0]], []⟩).memory Tryz.f6.params.toList Rows.kernelIdleSpec.vars false (#[Value.agg #[.int .i64 0, .int .i64 0, .int .i64 0, .int .u64 0]] : Array Value).toList 8 = some ([.agg [.lit (.int .i64 0), .lit (.int .i64 0), .lit (.int .i64 0), .lit (.int .u64 0)]], [], places) :=
  ⟨[], by kernel_rfl⟩

set_option maxRecDepth 100000 in
theorem lifted (os : Os) (started : os.Started) (H : Type) (enc : TypeId × Value → H) (F : Stop.Interp) :
    ReturnsInHanded {} Tryz.checked os 6 .any ((OpenSpec.ofChange Rows.kernelIdleSpec).preRow enc Tryz.prog Tryz.f6 Rows.kernelIdleRow.domain false Rows.kernelIdleRow.laid) (((OpenSpec.ofChange Rows.kernelIdleSpec).at F).post enc Tryz.prog Tryz.f6 false true false false) := by
  obtain ⟨places, hx⟩ := reads os enc
  refine returnsInHanded_of_row (C := Tryz.checked) (s := OpenSpec.ofChange Rows.kernelIdleSpec) own started (by kernel_rfl) Tryz.func6
    (witness_row_at (enc := enc) (C := Tryz.checked) false (laidWorld os) #[Value.agg #[.int .i64 0, .int .i64 0, .int .i64 0, .int .u64 0]] rfl (by kernel_rfl) (by kernel_rfl) (by kernel_rfl)
      (OpenSpec.preRow_of_cond 8 hx (by kernel_rfl) (fun k hk => by cases hk) (by kernel_rfl) (laid_met os))) ?_
  intro W base args ds gs before hval hW _ _ _ hL _ _
  exact contract H enc W base args ds gs before hval hW hL

set_option maxRecDepth 1000000 in
theorem said : Rows.KernelIdleSaid :=
  OpenClaim.holds_of_cond 6 Tryz.f6 rfl rfl rfl rfl rfl rfl rfl ⟨rfl, rfl, rfl, rfl, rfl⟩ rfl rfl rfl rfl rfl (by kernel_rfl) Tryz.func6 ijfacts
    (of_decide_eq_true (by kernel_rfl)) (by unfold Func.isWrapper; first | (rw [if_pos (by decide +kernel)]; kernel_rfl) | (rw [if_neg (by decide +kernel)]; exact ⟨rfl, rfl⟩))
    (fun os started H enc _ F => by rw [OpenClaim.pre_eq_preRow]; exact lifted os started H enc F)

end Go.Proofs.YtligpkenodgfoaaGreatDoor
end
