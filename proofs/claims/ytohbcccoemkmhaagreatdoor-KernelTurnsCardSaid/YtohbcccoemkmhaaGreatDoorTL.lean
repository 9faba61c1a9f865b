/-
  PROVED: citadellaw23.KernelTurns returns true at every input; its arguments read as before. Condition: none; the laid tables start as the program's own text lays them (the card ties them).
-/
import Derived.Test.YtohbcccoemkmhaaGreatDoorRows
import Derived.Test.YtohbcccoemkmhaaGreatDoorCards
import Derived.Test.YtohbcccoemkmhaaGreatDoorTie
import Derived.Test.YtohbcccoemkmhaaGreatDoorLen
import Derived.Test.YtohbcccoemkmhaaGreatDoorTJ
import Derived.Test.YtohbcccoemkmhaaGreatDoorTF
import Derived.Test.YtohbcccoemkmhaaGreatDoorGTi0
import Derived.Test.YtohbcccoemkmhaaGreatDoorGTi1
import Derived.Test.YtohbcccoemkmhaaGreatDoorT1
import Derived.Test.YtohbcccoemkmhaaGreatDoorT2
import Derived.ProofKit
import Derived.OpenShut
import Derived.Deep.DeepHandedRow
import Derived.Lib.LaidTab
set_option linter.unusedSimpArgs false
set_option linter.unusedVariables false
noncomputable section
namespace Go.Proofs.YtohbcccoemkmhaaGreatDoor
open Go Go.Ev Go.Ev.X Go.ChangeShapes Go.WideShapes Go.ChangeAt Go.RowKit
theorem lenOk {E : Env} : LenOk E := len64_ok Tryz.call176 (fun x w h0 h1 => Tryz.bits_Len64 x w h0 h1)
theorem sat_nil {E : Env} (ρ : Rho) (w : World) : Sat E ρ ⟨.h, .h, .e⟩ w :=
  ⟨fun p o hp => absurd (show (none : Option O) = some o from (PT.get_e p).symm.trans hp) (by simp), fun p q o o' hp => absurd (show (none : Option O) = some o from (PT.get_e p).symm.trans hp) (by simp),
   fun p o hp => absurd (show (none : Option O) = some o from (PT.get_e p).symm.trans hp) (by simp)⟩
theorem rl0 : rowless st0.h = true := by kernel_rfl
theorem rl1 : rowless st1.h = true := by kernel_rfl
theorem rl2 : rowless st2.h = true := by kernel_rfl
theorem rl3 : rowless st3.h = true := by kernel_rfl
theorem rl4 : rowless st4.h = true := by kernel_rfl
theorem rl5 : rowless st5.h = true := by kernel_rfl
theorem rl6 : rowless st6.h = true := by kernel_rfl
theorem rl7 : rowless st7.h = true := by kernel_rfl
theorem rl8 : rowless st8.h = true := by kernel_rfl
theorem rl9 : rowless st9.h = true := by kernel_rfl
def gjT (j : Nat) : Ctx := ⟨(nth [gAt0, gAt1, gAt2, gAt3, gAt4, gAt5, gAt6, gAt7, gAt8, gAt9] j).getD gAt0, 3, 20000⟩
theorem round {E : Env} : ∀ m j, InvT m j E → ∃ fa nx, FaOk E fa ∧ runJ stT xiT ziT (koB rsT) (gjT j) j fa nx = 0 ∧ Leads stT InvT E nx m := by
  intro m j hI
  match j, hI with
  | 0, hI =>
    by_cases h : E.i 4 < E.i 5
    · obtain ⟨m', hlt, hI'⟩ := next0 hI h
      exact ⟨_, [(1, sg0)], go_ok h, g_go0, fun _ => ⟨1, sg0, m', anew sg0 E, by simp, hlt, hI', anew_tr _ _, rowless_ok (h := st1.h) rl1 _⟩⟩
    · exact ⟨_, [], out_ok hI h, g_out0, fun h => absurd rfl h⟩
  | 1, hI =>
    by_cases h : E.i 4 < E.i 5
    · obtain ⟨m', hlt, hI'⟩ := next1 hI h
      exact ⟨_, [(2, sg1)], go_ok h, g_go1, fun _ => ⟨2, sg1, m', anew sg1 E, by simp, hlt, hI', anew_tr _ _, rowless_ok (h := st2.h) rl2 _⟩⟩
    · exact ⟨_, [], out_ok hI h, g_out1, fun h => absurd rfl h⟩
  | 2, hI =>
    by_cases h : E.i 4 < E.i 5
    · obtain ⟨m', hlt, hI'⟩ := next2 hI h
      exact ⟨_, [(3, sg2)], go_ok h, g_go2, fun _ => ⟨3, sg2, m', anew sg2 E, by simp, hlt, hI', anew_tr _ _, rowless_ok (h := st3.h) rl3 _⟩⟩
    · exact ⟨_, [], out_ok hI h, g_out2, fun h => absurd rfl h⟩
  | 3, hI =>
    by_cases h : E.i 4 < E.i 5
    · obtain ⟨m', hlt, hI'⟩ := next3 hI h
      exact ⟨_, [(4, sg3)], go_ok h, g_go3, fun _ => ⟨4, sg3, m', anew sg3 E, by simp, hlt, hI', anew_tr _ _, rowless_ok (h := st4.h) rl4 _⟩⟩
    · exact ⟨_, [], out_ok hI h, g_out3, fun h => absurd rfl h⟩
  | 4, hI =>
    by_cases h : E.i 4 < E.i 5
    · obtain ⟨m', hlt, hI'⟩ := next4 hI h
      exact ⟨_, [(5, sg4)], go_ok h, g_go4, fun _ => ⟨5, sg4, m', anew sg4 E, by simp, hlt, hI', anew_tr _ _, rowless_ok (h := st5.h) rl5 _⟩⟩
    · exact ⟨_, [], out_ok hI h, g_out4, fun h => absurd rfl h⟩
  | 5, hI =>
    by_cases h : E.i 4 < E.i 5
    · obtain ⟨m', hlt, hI'⟩ := next5 hI h
      exact ⟨_, [(6, sg5)], go_ok h, g_go5, fun _ => ⟨6, sg5, m', anew sg5 E, by simp, hlt, hI', anew_tr _ _, rowless_ok (h := st6.h) rl6 _⟩⟩
    · exact ⟨_, [], out_ok hI h, g_out5, fun h => absurd rfl h⟩
  | 6, hI =>
    by_cases h : E.i 4 < E.i 5
    · obtain ⟨m', hlt, hI'⟩ := next6 hI h
      exact ⟨_, [(7, sg6)], go_ok h, g_go6, fun _ => ⟨7, sg6, m', anew sg6 E, by simp, hlt, hI', anew_tr _ _, rowless_ok (h := st7.h) rl7 _⟩⟩
    · exact ⟨_, [], out_ok hI h, g_out6, fun h => absurd rfl h⟩
  | 7, hI =>
    by_cases h : E.i 4 < E.i 5
    · obtain ⟨m', hlt, hI'⟩ := next7 hI h
      exact ⟨_, [(8, sg7)], go_ok h, g_go7, fun _ => ⟨8, sg7, m', anew sg7 E, by simp, hlt, hI', anew_tr _ _, rowless_ok (h := st8.h) rl8 _⟩⟩
    · exact ⟨_, [], out_ok hI h, g_out7, fun h => absurd rfl h⟩
  | 8, hI =>
    by_cases h : E.i 4 < E.i 5
    · obtain ⟨m', hlt, hI'⟩ := next8 hI h
      exact ⟨_, [(9, sg8)], go_ok h, g_go8, fun _ => ⟨9, sg8, m', anew sg8 E, by simp, hlt, hI', anew_tr _ _, rowless_ok (h := st9.h) rl9 _⟩⟩
    · exact ⟨_, [], out_ok hI h, g_out8, fun h => absurd rfl h⟩
  | 9, hI =>
    by_cases h : E.i 4 < E.i 5
    · obtain ⟨m', hlt, hI'⟩ := next9 hI h
      exact ⟨_, [(0, sg9)], go_ok h, g_go9, fun _ => ⟨0, sg9, m', anew sg9 E, by simp, hlt, hI', anew_tr _ _, rowless_ok (h := st0.h) rl0 _⟩⟩
    · exact ⟨_, [], out_ok hI h, g_out9, fun h => absurd rfl h⟩
  | n + 10, hI => exact absurd hI.1 (by omega)
theorem calls {E : Env} (hx : CxOk E Tryz.prog (tyOf Tryz.prog) cx1) (h1 : CallOk E Tryz.prog call1) : ∀ m j, InvT m j E → CallOk E Tryz.prog (gjT j).call := by
  intro m j hI
  match j, hI with
  | 0, hI => exact gAt0_ok hx h1
  | 1, hI => exact gAt1_ok hx h1
  | 2, hI => exact gAt2_ok hx h1
  | 3, hI => exact gAt3_ok hx h1
  | 4, hI => exact gAt4_ok hx h1
  | 5, hI => exact gAt5_ok hx h1
  | 6, hI => exact gAt6_ok hx h1
  | 7, hI => exact gAt7_ok hx h1
  | 8, hI => exact gAt8_ok hx h1
  | 9, hI => exact gAt9_ok hx h1
  | n + 10, hI => exact absurd hI.1 (by omega)
theorem lead0 {E : Env} (h : 0 ≤ E.i 0) : Leads stT InvT E [(0, sgIn0)] 101 := by
  intro _
  have e5 : (anew sgIn0 E).i 5 = E.i 0 % 100 := by
    show (E.i 0).tmod 100 = _
    rw [Int.tmod_eq_emod_of_nonneg h]
  have e4 : (anew sgIn0 E).i 4 = 0 := rfl
  have e2 : (anew sgIn0 E).i 2 = 0 := rfl
  have e3 : (anew sgIn0 E).i 3 = 0 := rfl
  exact ⟨0, sgIn0, 100, anew sgIn0 E, by simp, by omega, ⟨by omega, 0, by omega, by rw [e4]; rfl, by rw [e2]; rfl, by rw [e3]; rfl, by rw [e4, e5]; omega, by rw [e5]; omega, by rw [e4]; rfl⟩, anew_tr _ _, rowless_ok (h := st0.h) rl0 _⟩
theorem lead1 {E : Env} (h : -9223372036854775808 ≤ E.i 0 ∧ E.i 0 < 0) : Leads stT InvT E [(0, sgIn1)] 101 := by
  intro _
  have e5 : (anew sgIn1 E).i 5 = (-(E.i 0 + 1)) % 100 := by
    show (wrapF .i64 (0 - wrapF .i64 (E.i 0 + 1))).tmod 100 = _
    rw [wrapF_eq, wrapF_eq, IntKind.wrap_i64, IntKind.wrap_i64, Int.tmod_eq_emod_of_nonneg (by omega)]
    omega
  have e4 : (anew sgIn1 E).i 4 = 0 := rfl
  have e2 : (anew sgIn1 E).i 2 = 0 := rfl
  have e3 : (anew sgIn1 E).i 3 = 0 := rfl
  exact ⟨0, sgIn1, 100, anew sgIn1 E, by simp, by omega, ⟨by omega, 0, by omega, by rw [e4]; rfl, by rw [e2]; rfl, by rw [e3]; rfl, by rw [e4, e5]; omega, by rw [e5]; omega, by rw [e4]; rfl⟩, anew_tr _ _, rowless_ok (h := st0.h) rl0 _⟩
theorem fa_in {E : Env} {b : Bool} (h : decide (E.i 0 < 0) = b) : FaOk E ⟨[(geT, b)], []⟩ := by
  refine ⟨fun c x hm => ?_, fun _ _ _ hm => by cases hm⟩
  rcases List.mem_cons.1 hm with e | hm
  · cases e
    show iLt (E.i 0) 0 = _
    rw [iLt_eq]; exact h
  · cases hm
theorem turns_E (E : Env) (W : World) (hb : -9223372036854775808 ≤ E.i 0 ∧ E.i 0 ≤ 9223372036854775807) :
    Calls Tryz.prog 3 (γL E (fun _ => ⟨0, 0⟩) argsT).toArray W fun e w' => e = .returned (.bool true) ∧ Below W.heap.size W w' := by
  have hx : ∀ E : Env, CxOk E Tryz.prog (tyOf Tryz.prog) cx1 := fun E => cx1_ok lenOk
  have h1 : ∀ E : Env, CallOk E Tryz.prog call1 := fun E => call1_ok lenOk
  have hA : CallOk E Tryz.prog callA := callA_ok (hx E) (h1 E)
  have hl : bdL 1 argsT := ⟨trivial, trivial⟩
  have hn : ∀ (p : Ev.P) (o : O), (⟨.h, .h, .e⟩ : H).t.get p = some o → o.live = true → Ev.P.h.toNat ≤ p.toNat → W.heap.size ≤ ((fun _ => (⟨0, 0⟩ : Pl)) p).b := fun p o hp => absurd (show (none : Option O) = some o from (PT.get_e p).symm.trans hp) (by simp)
  cases hs : decide (E.i 0 < 0) with
  | false =>
    exact cut_law tyOk_tyOf mixedX Tryz.func3 cT w3 (fun m j E => calls (hx E) (h1 E) m j) (fun m j E => round m j) (g0 := ⟨gWay0, 3, 20000⟩) (gWay0_ok (hx E) (h1 E) hA) (fa_in hs) 101 (lead0 (by have := of_decide_eq_false hs; omega)) g_in0 (sat_nil _ W) hl hn
  | true =>
    exact cut_law tyOk_tyOf mixedX Tryz.func3 cT w3 (fun m j E => calls (hx E) (h1 E) m j) (fun m j E => round m j) (g0 := ⟨gWay1, 3, 20000⟩) (gWay1_ok (hx E) (h1 E) hA) (fa_in hs) 101 (lead1 ⟨hb.1, of_decide_eq_true hs⟩) g_in1 (sat_nil _ W) hl hn
theorem trodAll_stays {H : Type} {enc : TypeId × Value → H} {P : Program} (hl : laidOutB P = true) {W W' : World} (hb : Below W.heap.size W W') :
    ∀ (ts : List TypeId) (vs : List Value) (ds : List (DataW H)) (ps : List MemPlace), (∀ t ∈ ts, P.readableRec t = true ∧ t < P.types.size) →
    DataW.TrodAll enc P W 0 (fun _ => true) true ts vs ds ps → (∀ x ∈ ps, x.block < W.heap.size) → DataW.TrodAll enc P W' 0 (fun b => decide (b < W.heap.size)) true ts vs ds ps := by
  intro ts
  induction ts with
  | nil =>
    intro vs ds ps _ h _
    obtain ⟨rfl, rfl, rfl⟩ := trodAll_nil h
    exact trodAll_mk0
  | cons t ts ih =>
    intro vs ds ps hr h hlt
    obtain ⟨v0, vs0, d0, ds0, p0, q0, rfl, rfl, rfl, h0, r0⟩ := trodAll_cons h
    have h1 := hr t (by simp)
    exact trodAll_cons_mk (Below.trod hl h1.1 h1.2 h0 hb (fun x hx => hlt x (by simp [hx]))) (ih _ _ _ (fun t' ht' => hr t' (by simp [ht'])) r0 (fun x hx => hlt x (by simp [hx])))

theorem law_post {H : Type} {enc : TypeId × Value → H} {P : Program} {f : Func} {s : ChangeSpec} {W W' : World} {args : Array Value} {ds gs : List (DataW H)} {before : List MemPlace} {tb : TypeId}
    (hl : laidOutB P = true) (hr : ∀ t ∈ f.params.toList, P.readableRec t = true ∧ t < P.types.size) (hvars : s.vars = []) (hres : f.resultTypes = #[tb]) (htb : P.underlying tb = some .bool)
    (hW : DataW.Whole enc P f.params.toList s.vars false W args.toList ds gs before) (hb : Below W.heap.size W W')
    (hfn : s.fn H (ds ++ gs) = { results := [.lit (.bool true)], args := ds }) :
    s.post enc P f false true false false W args (.bool true) W' := by
  have hW0 := hW
  obtain ⟨p, q, hA, hV, hpq, hfz, hnd⟩ := hW
  refine ⟨ds, gs, before, [], p, [], hW0, ?_, ?_, ?_, hb.frame _, fun h => by cases h⟩
  · rw [hfn, hres]
    exact trodAll_cons_mk (shut_bool htb true) trodAll_mk0
  · rw [hfn]
    refine trodAll_stays hl hb _ _ _ _ hr hA (fun x hx => ?_)
    exact hW0.lt x (by rw [hpq]; simp [hx])
  · rw [hvars, hfn]
    rfl
theorem turns_any (W : World) (a : Int) (ha : -9223372036854775808 ≤ a ∧ a ≤ 9223372036854775807) :
    Calls Tryz.prog 3 #[.int .i64 a] W fun e w' => e = .returned (.bool true) ∧ Below W.heap.size W w' := by
  obtain ⟨E, hE⟩ : ∃ E : Env, E = ⟨fun i => a, fun _ => false, fun _ => ⟨0, 0, 0, 0, 0, 0, 0, #[]⟩⟩ := ⟨_, rfl⟩
  have h0 : E.i 0 = a := by rw [hE]
  have := turns_E E W (by rw [h0]; exact ha)
  have hargs : (γL E (fun _ => ⟨0, 0⟩) argsT).toArray = #[.int .i64 a] := by
    rw [hE]
    rfl
  rw [hargs] at this
  exact this
theorem own : ownKnob Tryz.prog.godebug = none := by kernel_rfl
theorem laidOut : laidOutB Tryz.prog = true := by kernel_rfl
set_option maxRecDepth 100000 in
theorem contract (H : Type) (enc : TypeId × Value → H) (W : World) (base : Nat) (args : Array Value) (ds gs : List (DataW H)) (before : List MemPlace)
    (hval0 : ∀ (j : Nat) t v, Tryz.f3.params[j]? = some t → args[j]? = some v → Value.okWide Tryz.prog W .any base t v)
    (hW : DataW.Whole enc Tryz.prog Tryz.f3.params.toList Rows.kernelTurnsSpec.vars false W args.toList ds gs before) (hL : laidMetH Tryz.prog Rows.kernelTurnsRow.laid W) :
    Calls Tryz.prog 3 args W fun e W' => ∃ v, e = .returned v ∧ Rows.kernelTurnsSpec.post enc Tryz.prog Tryz.f3 false true false false W args v W' := by
  have hval := hval0
  have hW' := hW
  obtain ⟨p, q, hA0, hV, rfl, hfz, hnd⟩ := hW
  have hA : DataW.TrodAll enc Tryz.prog W 0 (fun _ => true) true Tryz.f3.params.toList args.toList ds p := hA0
  rw [Tryz.params3] at hA hval
  obtain ⟨v0, vs0, d0, ds0, p0, q0, hargs, rfl, rfl, h0, r0⟩ := trodAll_cons hA
  obtain ⟨rfl, rfl, rfl⟩ := trodAll_nil r0
  obtain rfl : args = #[v0] := by cases args; simp_all
  obtain ⟨a0, rfl, rfl, rfl, w0⟩ := open_int Tryz.underlying3 (hval 0 3 v0 rfl rfl) h0
  have b0 : -9223372036854775808 ≤ a0 ∧ a0 ≤ 9223372036854775807 := by simp [Lit.wf, IntKind.min, IntKind.max, IntKind.signed, IntKind.bits] at w0; omega
  obtain ⟨rfl, rfl⟩ := trodVars_none hV
  refine (turns_any W a0 b0).mono fun e W' ⟨he, hk⟩ => ?_
  subst he
  refine ⟨_, rfl, law_post laidOut ?_ rfl rfl Tryz.underlying4 hW' hk rfl⟩
  rw [Tryz.params3]
  intro t ht
  simp only [List.mem_cons, List.not_mem_nil, or_false] at ht
  subst ht
  · exact ⟨by kernel_rfl, of_decide_eq_true (by kernel_rfl)⟩

noncomputable def laidWorld (os : Os) : World :=
  { World.holding Tryz.prog os ⟨#[], #[], []⟩ with heap := (World.holding Tryz.prog os ⟨#[], #[], []⟩).heap.modify 0 fun
      | .cells _ t frozen => .cells #[.int .u8 0, .int .u8 1, .int .u8 28, .int .u8 2, .int .u8 29, .int .u8 14, .int .u8 24, .int .u8 3, .int .u8 30, .int .u8 22, .int .u8 20, .int .u8 15, .int .u8 25, .int .u8 17, .int .u8 4, .int .u8 8, .int .u8 31, .int .u8 27, .int .u8 13, .int .u8 23, .int .u8 21, .int .u8 19, .int .u8 16, .int .u8 7, .int .u8 26, .int .u8 12, .int .u8 18, .int .u8 6, .int .u8 11, .int .u8 5, .int .u8 10, .int .u8 9] t frozen
      | o => o }
theorem laid_met (os : Os) : laidMet Tryz.prog Rows.kernelTurnsRow.laid ((laidWorld os).forCall (fun _ _ => 0) ⟨#[], #[Value.int .i64 0], []⟩).memory :=
  laidMet_of_run' 8 (by kernel_rfl) (by kernel_rfl)
theorem reads (os : Os) {H : Type} (enc : TypeId × Value → H) : ∃ places, DataW.whole enc Tryz.prog ((laidWorld os).forCall (fun _ _ => 0) ⟨#[], #[Value.int .i64 0], []⟩).memory Tryz.f3.params.toList Rows.kernelTurnsSpec.vars false (#[Value.int .i64 0] : Array Value).toList 8 = some ([.lit (.int .i64 0)], [], places) :=
  ⟨[], by kernel_rfl⟩

set_option maxRecDepth 100000 in
theorem lifted (os : Os) (started : os.Started) (H : Type) (enc : TypeId × Value → H) (F : Stop.Interp) :
    ReturnsInHanded {} Tryz.checked os 3 .any ((OpenSpec.ofChange Rows.kernelTurnsSpec).preRow enc Tryz.prog Tryz.f3 Rows.kernelTurnsRow.domain false Rows.kernelTurnsRow.laid) (((OpenSpec.ofChange Rows.kernelTurnsSpec).at F).post enc Tryz.prog Tryz.f3 false true false false) := by
  obtain ⟨places, hx⟩ := reads os enc
  refine returnsInHanded_of_row (C := Tryz.checked) (s := OpenSpec.ofChange Rows.kernelTurnsSpec) own started (by kernel_rfl) Tryz.func3
    (witness_row_at (enc := enc) (C := Tryz.checked) false (laidWorld os) #[Value.int .i64 0] rfl (by kernel_rfl) (by kernel_rfl) (by kernel_rfl)
      (OpenSpec.preRow_of_cond 8 hx (by kernel_rfl) (fun k hk => by cases hk) (by kernel_rfl) (laid_met os))) ?_
  intro W base args ds gs before hval hW _ _ _ hL _ _
  exact contract H enc W base args ds gs before hval hW hL

set_option maxRecDepth 1000000 in
theorem said : Rows.KernelTurnsSaid :=
  OpenClaim.holds_of_cond 3 Tryz.f3 rfl rfl rfl rfl rfl rfl rfl ⟨rfl, rfl, rfl, rfl, rfl⟩ rfl rfl rfl rfl rfl (by kernel_rfl) Tryz.func3 tjfacts
    (of_decide_eq_true (by kernel_rfl)) (by unfold Func.isWrapper; first | (rw [if_pos (by decide +kernel)]; kernel_rfl) | (rw [if_neg (by decide +kernel)]; exact ⟨rfl, rfl⟩))
    (fun os started H enc _ F => by rw [OpenClaim.pre_eq_preRow]; exact lifted os started H enc F)

set_option maxRecDepth 1000000 in
theorem plain (f : FuncId) (fn : Func) (hf : Tryz.pinned.checked.prog.funcNamed "citadel/citadellaw23.KernelTurns" = some f) (hfn : Tryz.pinned.checked.prog.funcs[f]? = some fn) :
    false = Tryz.pinned.checked.prog.looks [] ∧ ∀ (j : Nat) t, fn.params[j]? = some t → Tryz.pinned.checked.prog.wantsStandIn t = false := by
  obtain rfl : f = 3 := Option.some.inj ((show Tryz.prog.funcNamed "citadel/citadellaw23.KernelTurns" = some 3 by kernel_rfl).symm.trans hf) |>.symm
  obtain rfl : fn = Tryz.f3 := (Option.some.inj (Tryz.func3.symm.trans hfn)).symm
  refine ⟨by kernel_rfl, fun j t ht => ?_⟩
  rw [Tryz.params3] at ht
  have hm := Array.mem_of_getElem? ht
  simp only [List.mem_toArray, List.mem_cons, List.not_mem_nil, or_false] at hm
  subst hm
  · exact (show Tryz.prog.wantsStandIn 3 = false by kernel_rfl)

/-- the card -/
theorem card : Rows.KernelTurnsCardSaid :=
  Claim7.holds_tied_plain_at .later [] _ _ _ _ said (fun _ h => by cases h) (by kernel_rfl) (fun _ h => by cases h) kernelTurns_row_tie rfl ⟨rfl, rfl⟩ (by kernel_rfl) rfl plain (by kernel_rfl)
#print axioms card
end Go.Proofs.YtohbcccoemkmhaaGreatDoor
end
