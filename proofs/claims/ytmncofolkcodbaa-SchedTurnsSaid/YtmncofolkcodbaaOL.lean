/-
  PROVED: citadellaw14.SchedTurns returns true at every input; its arguments read as before. Condition: none.
-/
import Derived.Test.YtmncofolkcodbaaRows
import Derived.Test.YtmncofolkcodbaaLen
import Derived.Test.YtmncofolkcodbaaRA
import Derived.Test.YtmncofolkcodbaaRE
import Derived.ProofKit
import Derived.OpenShut
import Derived.Deep.DeepHandedRow
set_option linter.unusedSimpArgs false
set_option linter.unusedVariables false
noncomputable section
namespace Go.Proofs.Ytmncofolkcodbaa
open Go Go.Ev Go.Ev.X Go.ChangeShapes Go.WideShapes Go.ChangeAt Go.RowKit
theorem lenOk {E : Env} : LenA E := fun E' _ => len64_ok Try.call53 (fun x w h0 h1 => Try.bits_Len64 x w h0 h1)
theorem sat_nil {E : Env} (ρ : Rho) (w : World) : Sat E ρ ⟨.h, .h, .e⟩ w :=
  ⟨fun p o hp => absurd (show (none : Option O) = some o from (PT.get_e p).symm.trans hp) (by simp), fun p q o o' hp => absurd (show (none : Option O) = some o from (PT.get_e p).symm.trans hp) (by simp),
   fun p o hp => absurd (show (none : Option O) = some o from (PT.get_e p).symm.trans hp) (by simp)⟩
theorem ext_below {ρ ρ' : Rho} {h' : H} {w w' : World} (x : Ext ρ ⟨.h, .h, .e⟩ w ρ' h' w') : Below w.heap.size w w' :=
  ⟨x.os, x.tape, x.output, x.size, fun b hb => x.keep b hb fun p o hp => absurd (show (none : Option O) = some o from (PT.get_e p).symm.trans hp) (by simp)⟩
/-- what a run that ends well gives -/
theorem law_of_run {E : Env} {F : Nat} {l : List V} {fa : Fa} {inner : CallT} (hi : CallOk E Try.prog inner) (hfa : FaOk E fa) (hr : callS cx1 0 inner F l ⟨.h, .h, .e⟩ fa Go.Ev.X.endB = 0) (hl : bdL 1 l) (W : World) :
    Calls Try.prog F (γL E (fun _ => ⟨0, 0⟩) l).toArray W fun e w' => e = .returned (.bool true) ∧ Below W.heap.size W w' := by
  obtain ⟨_, v, h', fa', hk, _, hc⟩ := callS_run (cx1_ok lenOk) 0 hi _ _ _ _ _ hr hfa
  obtain ⟨hv, _⟩ := bc_ok (show bc (V.beq v (.b true)) 0 1 = 0 from hk) (by simp)
  have hv := V.beq_ok hv
  subst hv
  refine (hc (fun _ => ⟨0, 0⟩) W hl (sat_nil _ W)).mono ?_
  rintro e w' ⟨ρ', rfl, _, x, _⟩
  exact ⟨rfl, ext_below x⟩
theorem cxA (E : Env) : CxOk E Try.prog (tyOf Try.prog) cx1 := cx1_ok lenOk
theorem clA (E : Env) : CallOk E Try.prog call1 := call1_ok lenOk
theorem callA' (E : Env) : CallOk E Try.prog callA := callA_ok (cxA E) (clA E)
theorem inK_ok {E : Env} {n : Nat} (h0 : -9223372036854775808 ≤ E.i 0 ∧ E.i 0 ≤ 9223372036854775807) (hn : pickI (E.i 0) 4 = ((n - 1 : Nat) : Int)) : CallOk E Try.prog (inK n) :=
  pick_pure (v := (.i .i64 (.ofNat (n - 1)))) Try.call5 (fun E' _ => cxA E') (fun E' _ => clA E') pk4_0 pk4_1 h0 trivial (fun ρ => by simp only [V.γ, hn]; rfl) (msS_ok rfl abt FaOk.nil (clA E) (callA' E))
theorem inE_ok {E : Env} (h0 : -9223372036854775808 ≤ E.i 0 ∧ E.i 0 ≤ 9223372036854775807) (hn : E.i 9 = pickI (E.i 0) 4) : CallOk E Try.prog inE :=
  pick_pure (v := (.si .i64 (.v 9))) Try.call5 (fun E' _ => cxA E') (fun E' _ => clA E') pk4_0 pk4_1 h0 trivial (fun ρ => by simp only [V.γ, SE.den, hn]) (msS_ok rfl abt FaOk.nil (clA E) (callA' E))
def X (E : Env) : Prop := 0 ≤ E.i 2 ∧ E.i 2 ≤ 200
theorem bc_two {a b : Bool} (h : bc a b false = true) : a = true ∧ b = true := by cases a <;> cases b <;> first | exact ⟨rfl, rfl⟩ | cases h
theorem sb_leq {E : Env} {a b : SE} {x y : Int} {t : Bool} (ha : a.den E = x) (hb : b.den E = y) (h : decide (x ≤ y) = t) : (SB.cmp .leq a b).den E = t := by
  show iLe (a.den E) (b.den E) = t
  rw [ha, hb, iLe_eq]; exact h
theorem sb_eql {E : Env} {a b : SE} (h : a.den E = b.den E) : (SB.cmp .eql a b).den E = true := by
  show iEq (a.den E) (b.den E) = true
  rw [iEq_eq, h]; simp
theorem rg_X {E : Env} (h : X E) : ∀ i a b, (i, a, b) ∈ ([(2, 0, 200)] : List (Nat × Int × Int)) → a ≤ E.i i ∧ E.i i ≤ b := fun i a b hm => by
  rcases List.mem_cons.1 hm with e | hm
  · cases e; exact h
  · cases hm
theorem turns_main (W : World) {E : Env} {p n : Nat} (hp : p < 256) (hn1 : 1 ≤ n) (hn4 : n ≤ 4) (h0 : -9223372036854775808 ≤ E.i 0 ∧ E.i 0 ≤ 9223372036854775807) (hpk : pickI (E.i 0) 4 = ((n - 1 : Nat) : Int)) (h2 : X E) :
    Calls Try.prog 3 (γL E (fun _ => ⟨0, 0⟩) (argsP p)).toArray W fun e w' => e = .returned (.bool true) ∧ Below W.heap.size W w' := by
  have hn : bc (inB p n) (allB (jB p n) (rng (5 * n))) false = true := allB_ok (rb p hp) n (by show n ∈ ([1, 2, 3, 4] : List Nat); simp; omega)
  obtain ⟨hin, hjs⟩ := bc_two hn
  have hj : ∀ j, j < 5 * n → goB p n j = true ∧ outB p n j = true ∧ rowless (stP p n j).h = true := fun j hj => by
    have h : bc (goB p n j) (bc (outB p n j) (rowless (stP p n j).h) false) false = true := rng_ok hjs j hj
    obtain ⟨h1, h⟩ := bc_two h
    exact ⟨h1, bc_two h⟩
  refine ticks_law tyOk_tyOf mixedX Try.func3 cC w3 (T := 5 * n) (by omega) (X := X) (st := stP p n) (c0 := call1) (fun E _ => clA E) (sg := sgN n) (sg0 := sg0N n) ?_ ?_ (fun E h => by have := h.2; omega) (fun j _ => rfl) rfl
    (fun j hj' => rowless_ok (hj j hj').2.2) (fg := fgN n) (fo := fun _ => foN) ?_ ?_ (fun j hj' => Nat.eq_of_beq_eq_true (hj j hj').1) (fun j hj' => Nat.eq_of_beq_eq_true (hj j hj').2.1) h2 (inK_ok h0 hpk) ⟨fun _ _ h => (by cases h), rg_X h2⟩ (Nat.eq_of_beq_eq_true hin)
    (sat_nil _ W) ⟨trivial, trivial, trivial, trivial⟩ (fun q o hq => absurd (show (none : Option O) = some o from (PT.get_e q).symm.trans hq) (by simp))
  · intro j E hX E' t
    have : E'.i 2 = E.i 2 := t.i 2 (.v 2) rfl
    unfold X
    rw [this]; exact hX
  · intro E hX E' t
    have : E'.i 2 = E.i 2 := t.i 2 (.v 2) rfl
    unfold X
    rw [this]; exact hX
  · intro j E hj' hX hmod h3 hle
    refine ⟨fun c b hm => ?_, rg_X hX⟩
    rcases List.mem_cons.1 hm with e | hm
    · cases e; exact sb_leq rfl rfl (decide_eq_true hle)
    · rcases List.mem_cons.1 hm with e | hm
      · cases e
        refine sb_eql ?_
        show (wrapF .i64 ((E.i 3).tdiv 5)).tmod (n : Int) = ((j / 5 : Nat) : Int)
        have h200 := hX.2
        rw [Int.tdiv_eq_ediv_of_nonneg h3, wrapF_eq, IntKind.wrap_i64]
        have hw : (E.i 3 / 5 + 9223372036854775808) % 18446744073709551616 - 9223372036854775808 = E.i 3 / 5 := by omega
        rw [hw, Int.tmod_eq_emod_of_nonneg (by omega)]
        have hc : n = 1 ∨ n = 2 ∨ n = 3 ∨ n = 4 := by omega
        rcases hc with rfl | rfl | rfl | rfl <;> omega
      · cases hm
  · intro j E _ hX hlt
    refine ⟨fun c b hm => ?_, rg_X hX⟩
    rcases List.mem_cons.1 hm with e | hm
    · cases e; exact sb_leq rfl rfl (decide_eq_false (show ¬ E.i 3 ≤ E.i 2 by omega))
    · cases hm
theorem turns_no (W : World) {E : Env} (h0 : -9223372036854775808 ≤ E.i 0 ∧ E.i 0 ≤ 9223372036854775807) (h9 : E.i 9 = pickI (E.i 0) 4) {r : List (Nat × Int × Int)} (hr : runE r = 0) (hf : ∀ i a b, (i, a, b) ∈ r → a ≤ E.i i ∧ E.i i ≤ b) :
    Calls Try.prog 3 (γL E (fun _ => ⟨0, 0⟩) argsE).toArray W fun e w' => e = .returned (.bool true) ∧ Below W.heap.size W w' :=
  law_of_run (inE_ok h0 h9) ⟨fun _ _ h => (by cases h), hf⟩ hr ⟨trivial, trivial, trivial, trivial⟩ W
theorem in1 {P : Nat → Int → Int → Prop} {i : Nat} {a b : Int} (h : P i a b) : ∀ i' a' b', (i', a', b') ∈ ([(i, a, b)] : List (Nat × Int × Int)) → P i' a' b' := fun i' a' b' hm => by
  rcases List.mem_cons.1 hm with e | hm
  · cases e; exact h
  · cases hm
theorem in2 {P : Nat → Int → Int → Prop} {i k : Nat} {a b c d : Int} (h : P i a b) (h2 : P k c d) : ∀ i' a' b', (i', a', b') ∈ ([(i, a, b), (k, c, d)] : List (Nat × Int × Int)) → P i' a' b' := fun i' a' b' hm => by
  rcases List.mem_cons.1 hm with e | hm
  · cases e; exact h
  · exact in1 h2 i' a' b' hm
theorem turns_any (W : World) (a0 a1 a2 : Int) (b0 : -9223372036854775808 ≤ a0 ∧ a0 ≤ 9223372036854775807) (b1 : -9223372036854775808 ≤ a1 ∧ a1 ≤ 9223372036854775807) (b2 : -9223372036854775808 ≤ a2 ∧ a2 ≤ 9223372036854775807) :
    Calls Try.prog 3 #[.int .i64 a0, .int .i64 a1, .int .i64 a2] W fun e w' => e = .returned (.bool true) ∧ Below W.heap.size W w' := by
  obtain ⟨E, hE⟩ : ∃ E : Env, E = ⟨fun i => if i = 0 then a0 else if i = 1 then a1 else if i = 9 then pickI a0 4 else a2, fun _ => false, fun _ => ⟨0, 0, 0, 0, 0, 0, 0, #[], (0, 0)⟩⟩ := ⟨_, rfl⟩
  have h0 : E.i 0 = a0 := by rw [hE]; rfl
  have h1 : E.i 1 = a1 := by rw [hE]; rfl
  have h2 : E.i 2 = a2 := by rw [hE]; rfl
  have h9 : E.i 9 = pickI (E.i 0) 4 := by rw [h0, hE]; rfl
  have hb0 : -9223372036854775808 ≤ E.i 0 ∧ E.i 0 ≤ 9223372036854775807 := by rw [h0]; exact b0
  have no : ∀ {r}, runE r = 0 → (∀ i a b, (i, a, b) ∈ r → a ≤ E.i i ∧ E.i i ≤ b) → Calls Try.prog 3 #[.int .i64 a0, .int .i64 a1, .int .i64 a2] W fun e w' => e = .returned (.bool true) ∧ Below W.heap.size W w' := by
    intro r hr hf
    have := turns_no W hb0 h9 hr hf
    have hargs : (γL E (fun _ => ⟨0, 0⟩) argsE).toArray = #[.int .i64 a0, .int .i64 a1, .int .i64 a2] := by simp only [argsE, γL, V.γ, SE.den, h0, h1, h2]
    rw [hargs] at this
    exact this
  by_cases c1 : a1 < 0
  · exact no e1 (in1 (P := fun i a b => a ≤ E.i i ∧ E.i i ≤ b) ⟨by rw [h1]; omega, by rw [h1]; omega⟩)
  by_cases c2 : 255 < a1
  · exact no e2 (in1 (P := fun i a b => a ≤ E.i i ∧ E.i i ≤ b) ⟨by rw [h1]; omega, by rw [h1]; omega⟩)
  by_cases c3 : a2 < 0
  · exact no e3 (in2 (P := fun i a b => a ≤ E.i i ∧ E.i i ≤ b) ⟨by rw [h1]; omega, by rw [h1]; omega⟩ ⟨by rw [h2]; omega, by rw [h2]; omega⟩)
  by_cases c4 : 200 < a2
  · exact no e4 (in2 (P := fun i a b => a ≤ E.i i ∧ E.i i ≤ b) ⟨by rw [h1]; omega, by rw [h1]; omega⟩ ⟨by rw [h2]; omega, by rw [h2]; omega⟩)
  obtain ⟨p, hp⟩ := Int.eq_ofNat_of_zero_le (show 0 ≤ a1 by omega)
  obtain ⟨q1, q2⟩ := pickI_lt (c := E.i 0) (n := 4) (by omega)
  obtain ⟨x, hx⟩ := Int.eq_ofNat_of_zero_le q1
  have := turns_main W (E := E) (p := p) (n := x + 1) (by omega) (by omega) (by omega) hb0 (by rw [hx]; rfl) ⟨by rw [h2]; omega, by rw [h2]; omega⟩
  have hargs : (γL E (fun _ => ⟨0, 0⟩) (argsP p)).toArray = #[.int .i64 a0, .int .i64 a1, .int .i64 a2] := by
    simp only [argsP, γL, V.γ, SE.den, h0, h2, hp]
    rfl
  rw [hargs] at this
  exact this
theorem trodAll_stays {H : Type} {enc : TypeId × Value → H} {P : Program} (hl : laidOutB P = true) {W W' : World} (hb : Below W.heap.size W W') :
    ∀ (ts : List TypeId) (vs : List Value) (ds : List (DataW H)) (ps : List MemPlace), (∀ t ∈ ts, P.readableRec t = true ∧ t < P.types.size) →
    DataW.TrodAll enc P W 0 (fun _ => true) true ts vs ds ps → (∀ x ∈ ps, x.block < W.heap.size) → DataW.TrodAll enc P W' 0 (fun b => decide (b < W.heap.size)) true ts vs ds ps := by
  intro ts
  induction ts with
  | nil =>
    intro vs ds ps _ h _
    obtain ⟨rfl, rfl, rfl⟩ := trodAll_nil h
    exact trodAll_mk0
  | cons t ts ih =>
    intro vs ds ps hr h hlt
    obtain ⟨v0, vs0, d0, ds0, p0, q0, rfl, rfl, rfl, h0, r0⟩ := trodAll_cons h
    have h1 := hr t (by simp)
    exact trodAll_cons_mk (Below.trod hl h1.1 h1.2 h0 hb (fun x hx => hlt x (by simp [hx]))) (ih _ _ _ (fun t' ht' => hr t' (by simp [ht'])) r0 (fun x hx => hlt x (by simp [hx])))

theorem law_post {H : Type} {enc : TypeId × Value → H} {P : Program} {f : Func} {s : ChangeSpec} {W W' : World} {args : Array Value} {ds gs : List (DataW H)} {before : List MemPlace} {tb : TypeId}
    (hl : laidOutB P = true) (hr : ∀ t ∈ f.params.toList, P.readableRec t = true ∧ t < P.types.size) (hvars : s.vars = []) (hres : f.resultTypes = #[tb]) (htb : P.underlying tb = some .bool)
    (hW : DataW.Whole enc P f.params.toList s.vars false W args.toList ds gs before) (hb : Below W.heap.size W W')
    (hfn : s.fn H (ds ++ gs) = { results := [.lit (.bool true)], args := ds }) :
    s.post enc P f false true false false W args (.bool true) W' := by
  have hW0 := hW
  obtain ⟨p, q, hA, hV, hpq, hfz, hnd⟩ := hW
  refine ⟨ds, gs, before, [], p, [], hW0, ?_, ?_, ?_, hb.frame _, fun h => by cases h⟩
  · rw [hfn, hres]
    exact trodAll_cons_mk (shut_bool htb true) trodAll_mk0
  · rw [hfn]
    refine trodAll_stays hl hb _ _ _ _ hr hA (fun x hx => ?_)
    exact hW0.lt x (by rw [hpq]; simp [hx])
  · rw [hvars, hfn]
    rfl
theorem own : ownKnob Try.prog.godebug = none := by kernel_rfl
theorem laidOut : laidOutB Try.prog = true := by kernel_rfl
set_option maxRecDepth 100000 in
theorem contract (H : Type) (enc : TypeId × Value → H) (W : World) (base : Nat) (args : Array Value) (ds gs : List (DataW H)) (before : List MemPlace)
    (hval0 : ∀ (j : Nat) t v, Try.f3.params[j]? = some t → args[j]? = some v → Value.okWide Try.prog W .any base t v)
    (hW : DataW.Whole enc Try.prog Try.f3.params.toList Rows.schedTurnsSpec.vars false W args.toList ds gs before) :
    Calls Try.prog 3 args W fun e W' => ∃ v, e = .returned v ∧ Rows.schedTurnsSpec.post enc Try.prog Try.f3 false true false false W args v W' := by
  have hval := hval0
  have hW' := hW
  obtain ⟨p, q, hA0, hV, rfl, hfz, hnd⟩ := hW
  have hA : DataW.TrodAll enc Try.prog W 0 (fun _ => true) true Try.f3.params.toList args.toList ds p := hA0
  rw [Try.params3] at hA hval
  obtain ⟨v0, vs0, d0, ds0, p0, q0, hargs, rfl, rfl, h0, r0⟩ := trodAll_cons hA
  obtain ⟨v1, vs1, d1, ds1, p1, q1, rfl, rfl, rfl, h1, r1⟩ := trodAll_cons r0
  obtain ⟨v2, vs2, d2, ds2, p2, q2, rfl, rfl, rfl, h2, r2⟩ := trodAll_cons r1
  obtain ⟨rfl, rfl, rfl⟩ := trodAll_nil r2
  obtain rfl : args = #[v0, v1, v2] := by cases args; simp_all
  obtain ⟨a0, rfl, rfl, rfl, w0⟩ := open_int Try.underlying3 (hval 0 3 v0 rfl rfl) h0
  have b0 : -9223372036854775808 ≤ a0 ∧ a0 ≤ 9223372036854775807 := by simp [Lit.wf, IntKind.min, IntKind.max, IntKind.signed, IntKind.bits] at w0; omega
  obtain ⟨a1, rfl, rfl, rfl, w1⟩ := open_int Try.underlying3 (hval 1 3 v1 rfl rfl) h1
  have b1 : -9223372036854775808 ≤ a1 ∧ a1 ≤ 9223372036854775807 := by simp [Lit.wf, IntKind.min, IntKind.max, IntKind.signed, IntKind.bits] at w1; omega
  obtain ⟨a2, rfl, rfl, rfl, w2⟩ := open_int Try.underlying3 (hval 2 3 v2 rfl rfl) h2
  have b2 : -9223372036854775808 ≤ a2 ∧ a2 ≤ 9223372036854775807 := by simp [Lit.wf, IntKind.min, IntKind.max, IntKind.signed, IntKind.bits] at w2; omega
  obtain ⟨rfl, rfl⟩ := trodVars_none hV
  have hrun : Calls Try.prog 3 #[.int .i64 a0, .int .i64 a1, .int .i64 a2] W fun e w' => e = .returned (.bool true) ∧ Below W.heap.size W w' := turns_any W a0 a1 a2 b0 b1 b2
  refine hrun.mono fun e W' ⟨he, hk⟩ => ?_
  subst he
  refine ⟨_, rfl, law_post laidOut ?_ rfl rfl Try.underlying4 hW' hk rfl⟩
  rw [Try.params3]
  intro t ht
  simp only [List.mem_cons, List.not_mem_nil, or_false] at ht
  rcases ht with rfl | rfl | rfl
  all_goals exact ⟨by kernel_rfl, of_decide_eq_true (by kernel_rfl)⟩
set_option maxRecDepth 100000 in
theorem lifted (os : Os) (started : os.Started) (H : Type) (enc : TypeId × Value → H) :
    ReturnsInHanded {} Try.checked os 3 .any (Rows.schedTurnsSpec.pre6 enc Try.prog Try.f3 Rows.schedTurnsRow.domain false) (Rows.schedTurnsSpec.post enc Try.prog Try.f3 false true false false) := by
  refine returnsInHanded_of_change (C := Try.checked) own started (by kernel_rfl) Try.func3
    (ChangeSpec.witness6 (enc := enc) (C := Try.checked) false ⟨#[], #[.int .i64 0, .int .i64 0, .int .i64 0], []⟩ 8 (by kernel_rfl) (by kernel_rfl) (by kernel_rfl) (by kernel_rfl)) ?_
  intro W base args ds gs before hval0 hW hcnd _
  exact contract H enc W base args ds gs before hval0 hW
set_option maxRecDepth 1000000 in
theorem said : Rows.SchedTurnsSaid :=
  OpenClaim.holds_of_wide 3 Try.f3 rfl rfl rfl rfl rfl rfl rfl ⟨rfl, rfl, rfl, rfl, rfl⟩ rfl rfl rfl rfl rfl (by kernel_rfl) Try.func3 (by kernel_rfl)
    (of_decide_eq_true (by kernel_rfl)) (by unfold Func.isWrapper; first | (rw [if_pos (by decide +kernel)]; kernel_rfl) | (rw [if_neg (by decide +kernel)]; exact ⟨rfl, rfl⟩))
    (fun os started H enc _ => lifted os started H enc)
#print axioms said
end Go.Proofs.Ytmncofolkcodbaa
end
