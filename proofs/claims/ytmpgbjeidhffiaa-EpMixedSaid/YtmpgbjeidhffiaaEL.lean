/-
  PROVED: citadellaw16.EpMixed returns true at every input; its arguments read as before. Condition: none.
-/
import Derived.Test.YtmpgbjeidhffiaaRows
import Derived.Test.YtmpgbjeidhffiaaEJ
import Derived.Test.YtmpgbjeidhffiaaMT0
import Derived.Test.YtmpgbjeidhffiaaMT1
import Derived.Test.YtmpgbjeidhffiaaMT2
import Derived.Test.YtmpgbjeidhffiaaMT3
import Derived.Test.YtmpgbjeidhffiaaMT4
import Derived.Test.YtmpgbjeidhffiaaMT5
import Derived.Test.YtmpgbjeidhffiaaMT6
import Derived.Test.YtmpgbjeidhffiaaMT7
import Derived.Test.YtmpgbjeidhffiaaMT8
import Derived.Test.YtmpgbjeidhffiaaMT9
import Derived.Test.YtmpgbjeidhffiaaMT10
import Derived.Test.YtmpgbjeidhffiaaMT11
import Derived.ProofKit
import Derived.OpenShut
import Derived.Deep.DeepHandedRow
set_option linter.unusedSimpArgs false
set_option linter.unusedVariables false
noncomputable section
namespace Go.Proofs.Ytmpgbjeidhffiaa
open Go Go.Ev Go.Ev.X Go.ChangeShapes Go.WideShapes Go.ChangeAt Go.RowKit
theorem lenOk {E : Env} : LenOk E := trivial
theorem sat_nil {E : Env} (ρ : Rho) (w : World) : Sat E ρ ⟨.h, .h, .e⟩ w :=
  ⟨fun p o hp => absurd (show (none : Option O) = some o from (PT.get_e p).symm.trans hp) (by simp), fun p q o o' hp => absurd (show (none : Option O) = some o from (PT.get_e p).symm.trans hp) (by simp),
   fun p o hp => absurd (show (none : Option O) = some o from (PT.get_e p).symm.trans hp) (by simp)⟩
theorem ext_below {ρ ρ' : Rho} {h' : H} {w w' : World} (x : Ext ρ ⟨.h, .h, .e⟩ w ρ' h' w') : Below w.heap.size w w' :=
  ⟨x.os, x.tape, x.output, x.size, fun b hb => x.keep b hb fun p o hp => absurd (show (none : Option O) = some o from (PT.get_e p).symm.trans hp) (by simp)⟩
/-- what a run that ends well gives -/
theorem law_of_run {E : Env} {F : Nat} {l : List V} {fa : Fa} {inner : CallT} (hi : CallOk E Try.prog inner) (hfa : FaOk E fa) (hr : callS cx1 0 inner F l ⟨.h, .h, .e⟩ fa endB = 0) (hl : bdL 1 l) (W : World) :
    Calls Try.prog F (γL E (fun _ => ⟨0, 0⟩) l).toArray W fun e w' => e = .returned (.bool true) ∧ Below W.heap.size W w' := by
  obtain ⟨_, v, h', fa', hk, _, hc⟩ := callS_run (cx1_ok lenOk) 0 hi _ _ _ _ _ hr hfa
  obtain ⟨hv, _⟩ := bc_ok (show bc (V.beq v (.b true)) 0 1 = 0 from hk) (by simp)
  have hv := V.beq_ok hv
  subst hv
  refine (hc (fun _ => ⟨0, 0⟩) W hl (sat_nil _ W)).mono ?_
  rintro e w' ⟨ρ', rfl, _, x, _⟩
  exact ⟨rfl, ext_below x⟩
theorem mixed_E (E : Env) (W : World) (hb : -9223372036854775808 ≤ E.i 0 ∧ E.i 0 ≤ 9223372036854775807) (b : Bool) :
    Calls Try.prog 3 (γL E (fun _ => ⟨0, 0⟩) (argsE b)).toArray W fun e w' => e = .returned (.bool true) ∧ Below W.heap.size W w' := by
  have h1 : CallOk E Try.prog call1 := call1_ok lenOk
  have hA : CallOk E Try.prog callA := callA_ok (cx1_ok lenOk) h1
  have hl : bdL 1 (argsE b) := ⟨trivial, trivial, trivial⟩
  rcases (by omega : (0 ≤ E.i 0 ∧ (E.i 0 % 3 = (0 : Nat) ∨ E.i 0 % 3 = (1 : Nat) ∨ E.i 0 % 3 = (2 : Nat))) ∨ (E.i 0 < 0 ∧ ((-(E.i 0 + 1)) % 3 = (0 : Nat) ∨ (-(E.i 0 + 1)) % 3 = (1 : Nat) ∨ (-(E.i 0 + 1)) % 3 = (2 : Nat)))) with ⟨h0, hn | hn | hn⟩ | ⟨h0, hn | hn | hn⟩
  · have hf := faE0 ⟨h0, hb.2⟩ hn rfl
    cases b
    · exact law_of_run (mIn6_ok h1 hA hf) hf m_run6 hl W
    · exact law_of_run (mIn0_ok h1 hA hf) hf m_run0 hl W
  · have hf := faE0 ⟨h0, hb.2⟩ hn rfl
    cases b
    · exact law_of_run (mIn8_ok h1 hA hf) hf m_run8 hl W
    · exact law_of_run (mIn2_ok h1 hA hf) hf m_run2 hl W
  · have hf := faE0 ⟨h0, hb.2⟩ hn rfl
    cases b
    · exact law_of_run (mIn10_ok h1 hA hf) hf m_run10 hl W
    · exact law_of_run (mIn4_ok h1 hA hf) hf m_run4 hl W
  · have hf := faE1 ⟨hb.1, h0⟩ hn rfl
    cases b
    · exact law_of_run (mIn7_ok h1 hA hf) hf m_run7 hl W
    · exact law_of_run (mIn1_ok h1 hA hf) hf m_run1 hl W
  · have hf := faE1 ⟨hb.1, h0⟩ hn rfl
    cases b
    · exact law_of_run (mIn9_ok h1 hA hf) hf m_run9 hl W
    · exact law_of_run (mIn3_ok h1 hA hf) hf m_run3 hl W
  · have hf := faE1 ⟨hb.1, h0⟩ hn rfl
    cases b
    · exact law_of_run (mIn11_ok h1 hA hf) hf m_run11 hl W
    · exact law_of_run (mIn5_ok h1 hA hf) hf m_run5 hl W
theorem trodAll_stays {H : Type} {enc : TypeId × Value → H} {P : Program} (hl : laidOutB P = true) {W W' : World} (hb : Below W.heap.size W W') :
    ∀ (ts : List TypeId) (vs : List Value) (ds : List (DataW H)) (ps : List MemPlace), (∀ t ∈ ts, P.readableRec t = true ∧ t < P.types.size) →
    DataW.TrodAll enc P W 0 (fun _ => true) true ts vs ds ps → (∀ x ∈ ps, x.block < W.heap.size) → DataW.TrodAll enc P W' 0 (fun b => decide (b < W.heap.size)) true ts vs ds ps := by
  intro ts
  induction ts with
  | nil =>
    intro vs ds ps _ h _
    obtain ⟨rfl, rfl, rfl⟩ := trodAll_nil h
    exact trodAll_mk0
  | cons t ts ih =>
    intro vs ds ps hr h hlt
    obtain ⟨v0, vs0, d0, ds0, p0, q0, rfl, rfl, rfl, h0, r0⟩ := trodAll_cons h
    have h1 := hr t (by simp)
    exact trodAll_cons_mk (Below.trod hl h1.1 h1.2 h0 hb (fun x hx => hlt x (by simp [hx]))) (ih _ _ _ (fun t' ht' => hr t' (by simp [ht'])) r0 (fun x hx => hlt x (by simp [hx])))

theorem law_post {H : Type} {enc : TypeId × Value → H} {P : Program} {f : Func} {s : ChangeSpec} {W W' : World} {args : Array Value} {ds gs : List (DataW H)} {before : List MemPlace} {tb : TypeId}
    (hl : laidOutB P = true) (hr : ∀ t ∈ f.params.toList, P.readableRec t = true ∧ t < P.types.size) (hvars : s.vars = []) (hres : f.resultTypes = #[tb]) (htb : P.underlying tb = some .bool)
    (hW : DataW.Whole enc P f.params.toList s.vars false W args.toList ds gs before) (hb : Below W.heap.size W W')
    (hfn : s.fn H (ds ++ gs) = { results := [.lit (.bool true)], args := ds }) :
    s.post enc P f false true false false W args (.bool true) W' := by
  have hW0 := hW
  obtain ⟨p, q, hA, hV, hpq, hfz, hnd⟩ := hW
  refine ⟨ds, gs, before, [], p, [], hW0, ?_, ?_, ?_, hb.frame _, fun h => by cases h⟩
  · rw [hfn, hres]
    exact trodAll_cons_mk (shut_bool htb true) trodAll_mk0
  · rw [hfn]
    refine trodAll_stays hl hb _ _ _ _ hr hA (fun x hx => ?_)
    exact hW0.lt x (by rw [hpq]; simp [hx])
  · rw [hvars, hfn]
    rfl
theorem mixed_any (W : World) (b : Bool) (a : Int) (ha : -9223372036854775808 ≤ a ∧ a ≤ 9223372036854775807) :
    Calls Try.prog 3 #[.bool b, .int .i64 a] W fun e w' => e = .returned (.bool true) ∧ Below W.heap.size W w' := by
  obtain ⟨E, hE⟩ : ∃ E : Env, E = ⟨fun i => a, fun _ => false⟩ := ⟨_, rfl⟩
  have h0 : E.i 0 = a := by rw [hE]
  have := mixed_E E W (by rw [h0]; exact ha) b
  have hargs : (γL E (fun _ => ⟨0, 0⟩) (argsE b)).toArray = #[.bool b, .int .i64 a] := by
    rw [hE]
    rfl
  rw [hargs] at this
  exact this
theorem own : ownKnob Try.prog.godebug = none := by kernel_rfl
theorem laidOut : laidOutB Try.prog = true := by kernel_rfl
set_option maxRecDepth 100000 in
theorem contract (H : Type) (enc : TypeId × Value → H) (W : World) (base : Nat) (args : Array Value) (ds gs : List (DataW H)) (before : List MemPlace)
    (hval0 : ∀ (j : Nat) t v, Try.f3.params[j]? = some t → args[j]? = some v → Value.okWide Try.prog W .any base t v)
    (hW : DataW.Whole enc Try.prog Try.f3.params.toList Rows.epMixedSpec.vars false W args.toList ds gs before) :
    Calls Try.prog 3 args W fun e W' => ∃ v, e = .returned v ∧ Rows.epMixedSpec.post enc Try.prog Try.f3 false true false false W args v W' := by
  have hval := hval0
  have hW' := hW
  obtain ⟨p, q, hA0, hV, rfl, hfz, hnd⟩ := hW
  have hA : DataW.TrodAll enc Try.prog W 0 (fun _ => true) true Try.f3.params.toList args.toList ds p := hA0
  rw [Try.params3] at hA hval
  obtain ⟨v0, vs0, d0, ds0, p0, q0, hargs, rfl, rfl, h0, r0⟩ := trodAll_cons hA
  obtain ⟨v1, vs1, d1, ds1, p1, q1, rfl, rfl, rfl, h1, r1⟩ := trodAll_cons r0
  obtain ⟨rfl, rfl, rfl⟩ := trodAll_nil r1
  obtain rfl : args = #[v0, v1] := by cases args; simp_all
  obtain ⟨b, rfl, rfl, rfl⟩ := open_bool Try.underlying4 (hval 0 4 v0 rfl rfl) h0
  obtain ⟨a, rfl, rfl, rfl, wa⟩ := open_int Try.underlying3 (hval 1 3 v1 rfl rfl) h1
  have ba : -9223372036854775808 ≤ a ∧ a ≤ 9223372036854775807 := by simp [Lit.wf, IntKind.min, IntKind.max, IntKind.signed, IntKind.bits] at wa; omega
  obtain ⟨rfl, rfl⟩ := trodVars_none hV
  refine (mixed_any W b a ba).mono fun e W' ⟨he, hk⟩ => ?_
  subst he
  refine ⟨_, rfl, law_post laidOut ?_ rfl rfl Try.underlying4 hW' hk rfl⟩
  rw [Try.params3]
  intro t ht
  simp only [List.mem_cons, List.not_mem_nil, or_false] at ht
  rcases ht with rfl | rfl
  all_goals exact ⟨by kernel_rfl, of_decide_eq_true (by kernel_rfl)⟩
set_option maxRecDepth 100000 in
theorem lifted (os : Os) (started : os.Started) (H : Type) (enc : TypeId × Value → H) :
    ReturnsInHanded {} Try.checked os 3 .any (Rows.epMixedSpec.pre6 enc Try.prog Try.f3 Rows.epMixedRow.domain false) (Rows.epMixedSpec.post enc Try.prog Try.f3 false true false false) := by
  refine returnsInHanded_of_change (C := Try.checked) own started (by kernel_rfl) Try.func3
    (ChangeSpec.witness6 (enc := enc) (C := Try.checked) false ⟨#[], #[.bool false, .int .i64 0], []⟩ 8 (by kernel_rfl) (by kernel_rfl) (by kernel_rfl) (by kernel_rfl)) ?_
  intro W base args ds gs before hval0 hW hcnd _
  exact contract H enc W base args ds gs before hval0 hW
theorem said : Rows.EpMixedSaid :=
  OpenClaim.holds_of_wide 3 Try.f3 rfl rfl rfl rfl rfl rfl rfl ⟨rfl, rfl, rfl, rfl, rfl⟩ rfl rfl rfl rfl rfl (by kernel_rfl) Try.func3 (by kernel_rfl)
    (of_decide_eq_true (by kernel_rfl)) (by unfold Func.isWrapper; first | (rw [if_pos (by decide +kernel)]; kernel_rfl) | (rw [if_neg (by decide +kernel)]; exact ⟨rfl, rfl⟩))
    (fun os started H enc _ => lifted os started H enc)
#print axioms said
end Go.Proofs.Ytmpgbjeidhffiaa
end
