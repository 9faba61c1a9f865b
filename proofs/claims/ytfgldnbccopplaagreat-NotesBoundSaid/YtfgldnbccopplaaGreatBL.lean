/-
  PROVED: citadellaw18.NotesBound returns true at every input; its arguments read as before. Condition: none.
-/
import Derived.Test.YtfgldnbccopplaaGreatRows
import Derived.Test.YtfgldnbccopplaaGreatLen
import Derived.Test.YtfgldnbccopplaaGreatBJ
import Derived.Test.YtfgldnbccopplaaGreatMT1
import Derived.Test.YtfgldnbccopplaaGreatMT2
import Derived.Test.YtfgldnbccopplaaGreatMT3
import Derived.Test.YtfgldnbccopplaaGreatMT4
import Derived.Test.YtfgldnbccopplaaGreatMT5
import Derived.Test.YtfgldnbccopplaaGreatMT6
import Derived.Test.YtfgldnbccopplaaGreatMT7
import Derived.Test.YtfgldnbccopplaaGreatMT8
import Derived.ProofKit
import Derived.OpenShut
import Derived.Deep.DeepHandedRow
set_option linter.unusedSimpArgs false
set_option linter.unusedVariables false
noncomputable section
namespace Go.Proofs.YtfgldnbccopplaaGreat
open Go Go.Ev Go.Ev.X Go.ChangeShapes Go.WideShapes Go.ChangeAt Go.RowKit
theorem lenOk {E : Env} : LenOk E := len64_ok Tryz.call88 (fun x w h0 h1 => Tryz.bits_Len64 x w h0 h1)
theorem sat_nil {E : Env} (ρ : Rho) (w : World) : Sat E ρ ⟨.h, .h, .e⟩ w :=
  ⟨fun p o hp => absurd (show (none : Option O) = some o from (PT.get_e p).symm.trans hp) (by simp), fun p q o o' hp => absurd (show (none : Option O) = some o from (PT.get_e p).symm.trans hp) (by simp),
   fun p o hp => absurd (show (none : Option O) = some o from (PT.get_e p).symm.trans hp) (by simp)⟩
theorem ext_below {ρ ρ' : Rho} {h' : H} {w w' : World} (x : Ext ρ ⟨.h, .h, .e⟩ w ρ' h' w') : Below w.heap.size w w' :=
  ⟨x.os, x.tape, x.output, x.size, fun b hb => x.keep b hb fun p o hp => absurd (show (none : Option O) = some o from (PT.get_e p).symm.trans hp) (by simp)⟩
/-- what a run that ends well gives -/
theorem law_of_run {E : Env} {F : Nat} {l : List V} {fa : Fa} {inner : CallT} (hi : CallOk E Tryz.prog inner) (hfa : FaOk E fa) (hr : callS cx1 0 inner F l ⟨.h, .h, .e⟩ fa endB = 0) (hl : bdL 1 l) (W : World) :
    Calls Tryz.prog F (γL E (fun _ => ⟨0, 0⟩) l).toArray W fun e w' => e = .returned (.bool true) ∧ Below W.heap.size W w' := by
  obtain ⟨_, v, h', fa', hk, _, hc⟩ := callS_run (cx1_ok lenOk) 0 hi _ _ _ _ _ hr hfa
  obtain ⟨hv, _⟩ := bc_ok (show bc (V.beq v (.b true)) 0 1 = 0 from hk) (by simp)
  have hv := V.beq_ok hv
  subst hv
  refine (hc (fun _ => ⟨0, 0⟩) W hl (sat_nil _ W)).mono ?_
  rintro e w' ⟨ρ', rfl, _, x, _⟩
  exact ⟨rfl, ext_below x⟩
theorem bound_E (E : Env) (W : World) (hb : -9223372036854775808 ≤ E.i 0 ∧ E.i 0 ≤ 9223372036854775807) (hb1 : -9223372036854775808 ≤ E.i 1 ∧ E.i 1 ≤ 9223372036854775807) :
    Calls Tryz.prog 4 (γL E (fun _ => ⟨0, 0⟩) argsB).toArray W fun e w' => e = .returned (.bool true) ∧ Below W.heap.size W w' := by
  have hx : CxOk E Tryz.prog (tyOf Tryz.prog) cx1 := cx1_ok lenOk
  have h1 : CallOk E Tryz.prog call1 := call1_ok lenOk
  have hA : CallOk E Tryz.prog callA := callA_ok hx h1
  have hl : bdL 1 argsB := ⟨trivial, trivial, trivial⟩
  rcases (by omega : (0 ≤ E.i 0 ∧ (E.i 0 % 2 = (0 : Nat) ∨ E.i 0 % 2 = (1 : Nat))) ∨ (E.i 0 < 0 ∧ ((-(E.i 0 + 1)) % 2 = (0 : Nat) ∨ (-(E.i 0 + 1)) % 2 = (1 : Nat)))) with ⟨h0, hn | hn⟩ | ⟨h0, hn | hn⟩
  · cases hs : decide (E.i 1 < 0)
    · have hf := faB0 ⟨h0, hb.2⟩ hn rfl hb1 hs
      exact law_of_run (mIn1_ok hx h1 hA hf) hf m_run1 hl W
    · have hf := faB0 ⟨h0, hb.2⟩ hn rfl hb1 hs
      exact law_of_run (mIn5_ok hx h1 hA hf) hf m_run5 hl W
  · cases hs : decide (E.i 1 < 0)
    · have hf := faB0 ⟨h0, hb.2⟩ hn rfl hb1 hs
      exact law_of_run (mIn2_ok hx h1 hA hf) hf m_run2 hl W
    · have hf := faB0 ⟨h0, hb.2⟩ hn rfl hb1 hs
      exact law_of_run (mIn6_ok hx h1 hA hf) hf m_run6 hl W
  · cases hs : decide (E.i 1 < 0)
    · have hf := faB1 ⟨hb.1, h0⟩ hn rfl hb1 hs
      exact law_of_run (mIn3_ok hx h1 hA hf) hf m_run3 hl W
    · have hf := faB1 ⟨hb.1, h0⟩ hn rfl hb1 hs
      exact law_of_run (mIn7_ok hx h1 hA hf) hf m_run7 hl W
  · cases hs : decide (E.i 1 < 0)
    · have hf := faB1 ⟨hb.1, h0⟩ hn rfl hb1 hs
      exact law_of_run (mIn4_ok hx h1 hA hf) hf m_run4 hl W
    · have hf := faB1 ⟨hb.1, h0⟩ hn rfl hb1 hs
      exact law_of_run (mIn8_ok hx h1 hA hf) hf m_run8 hl W
theorem trodAll_stays {H : Type} {enc : TypeId × Value → H} {P : Program} (hl : laidOutB P = true) {W W' : World} (hb : Below W.heap.size W W') :
    ∀ (ts : List TypeId) (vs : List Value) (ds : List (DataW H)) (ps : List MemPlace), (∀ t ∈ ts, P.readableRec t = true ∧ t < P.types.size) →
    DataW.TrodAll enc P W 0 (fun _ => true) true ts vs ds ps → (∀ x ∈ ps, x.block < W.heap.size) → DataW.TrodAll enc P W' 0 (fun b => decide (b < W.heap.size)) true ts vs ds ps := by
  intro ts
  induction ts with
  | nil =>
    intro vs ds ps _ h _
    obtain ⟨rfl, rfl, rfl⟩ := trodAll_nil h
    exact trodAll_mk0
  | cons t ts ih =>
    intro vs ds ps hr h hlt
    obtain ⟨v0, vs0, d0, ds0, p0, q0, rfl, rfl, rfl, h0, r0⟩ := trodAll_cons h
    have h1 := hr t (by simp)
    exact trodAll_cons_mk (Below.trod hl h1.1 h1.2 h0 hb (fun x hx => hlt x (by simp [hx]))) (ih _ _ _ (fun t' ht' => hr t' (by simp [ht'])) r0 (fun x hx => hlt x (by simp [hx])))

theorem law_post {H : Type} {enc : TypeId × Value → H} {P : Program} {f : Func} {s : ChangeSpec} {W W' : World} {args : Array Value} {ds gs : List (DataW H)} {before : List MemPlace} {tb : TypeId}
    (hl : laidOutB P = true) (hr : ∀ t ∈ f.params.toList, P.readableRec t = true ∧ t < P.types.size) (hvars : s.vars = []) (hres : f.resultTypes = #[tb]) (htb : P.underlying tb = some .bool)
    (hW : DataW.Whole enc P f.params.toList s.vars false W args.toList ds gs before) (hb : Below W.heap.size W W')
    (hfn : s.fn H (ds ++ gs) = { results := [.lit (.bool true)], args := ds }) :
    s.post enc P f false true false false W args (.bool true) W' := by
  have hW0 := hW
  obtain ⟨p, q, hA, hV, hpq, hfz, hnd⟩ := hW
  refine ⟨ds, gs, before, [], p, [], hW0, ?_, ?_, ?_, hb.frame _, fun h => by cases h⟩
  · rw [hfn, hres]
    exact trodAll_cons_mk (shut_bool htb true) trodAll_mk0
  · rw [hfn]
    refine trodAll_stays hl hb _ _ _ _ hr hA (fun x hx => ?_)
    exact hW0.lt x (by rw [hpq]; simp [hx])
  · rw [hvars, hfn]
    rfl
theorem bound_any (W : World) (a b : Int) (ha : -9223372036854775808 ≤ a ∧ a ≤ 9223372036854775807) (hb : -9223372036854775808 ≤ b ∧ b ≤ 9223372036854775807) :
    Calls Tryz.prog 4 #[.int .i64 a, .int .i64 b] W fun e w' => e = .returned (.bool true) ∧ Below W.heap.size W w' := by
  obtain ⟨E, hE⟩ : ∃ E : Env, E = ⟨fun i => if i = 0 then a else b, fun _ => false, fun _ => ⟨0, 0, 0, 0, 0, 0, 0, #[]⟩⟩ := ⟨_, rfl⟩
  have h0 : E.i 0 = a := by rw [hE]; rfl
  have h1 : E.i 1 = b := by rw [hE]; rfl
  have := bound_E E W (by rw [h0]; exact ha) (by rw [h1]; exact hb)
  have hargs : (γL E (fun _ => ⟨0, 0⟩) argsB).toArray = #[.int .i64 a, .int .i64 b] := by
    rw [hE]
    rfl
  rw [hargs] at this
  exact this
theorem own : ownKnob Tryz.prog.godebug = none := by kernel_rfl
theorem laidOut : laidOutB Tryz.prog = true := by kernel_rfl
set_option maxRecDepth 100000 in
theorem contract (H : Type) (enc : TypeId × Value → H) (W : World) (base : Nat) (args : Array Value) (ds gs : List (DataW H)) (before : List MemPlace)
    (hval0 : ∀ (j : Nat) t v, Tryz.f4.params[j]? = some t → args[j]? = some v → Value.okWide Tryz.prog W .any base t v)
    (hW : DataW.Whole enc Tryz.prog Tryz.f4.params.toList Rows.notesBoundSpec.vars false W args.toList ds gs before) :
    Calls Tryz.prog 4 args W fun e W' => ∃ v, e = .returned v ∧ Rows.notesBoundSpec.post enc Tryz.prog Tryz.f4 false true false false W args v W' := by
  have hval := hval0
  have hW' := hW
  obtain ⟨p, q, hA0, hV, rfl, hfz, hnd⟩ := hW
  have hA : DataW.TrodAll enc Tryz.prog W 0 (fun _ => true) true Tryz.f4.params.toList args.toList ds p := hA0
  rw [Tryz.params4] at hA hval
  obtain ⟨v0, vs0, d0, ds0, p0, q0, hargs, rfl, rfl, h0, r0⟩ := trodAll_cons hA
  obtain ⟨v1, vs1, d1, ds1, p1, q1, rfl, rfl, rfl, h1, r1⟩ := trodAll_cons r0
  obtain ⟨rfl, rfl, rfl⟩ := trodAll_nil r1
  obtain rfl : args = #[v0, v1] := by cases args; simp_all
  obtain ⟨b, rfl, rfl, rfl, wb⟩ := open_int Tryz.underlying3 (hval 0 3 v0 rfl rfl) h0
  have bb : -9223372036854775808 ≤ b ∧ b ≤ 9223372036854775807 := by simp [Lit.wf, IntKind.min, IntKind.max, IntKind.signed, IntKind.bits] at wb; omega
  obtain ⟨a, rfl, rfl, rfl, wa⟩ := open_int Tryz.underlying3 (hval 1 3 v1 rfl rfl) h1
  have ba : -9223372036854775808 ≤ a ∧ a ≤ 9223372036854775807 := by simp [Lit.wf, IntKind.min, IntKind.max, IntKind.signed, IntKind.bits] at wa; omega
  obtain ⟨rfl, rfl⟩ := trodVars_none hV
  refine (bound_any W b a bb ba).mono fun e W' ⟨he, hk⟩ => ?_
  subst he
  refine ⟨_, rfl, law_post laidOut ?_ rfl rfl Tryz.underlying4 hW' hk rfl⟩
  rw [Tryz.params4]
  intro t ht
  simp only [List.mem_cons, List.not_mem_nil, or_false] at ht
  rcases ht with rfl | rfl
  all_goals exact ⟨by kernel_rfl, of_decide_eq_true (by kernel_rfl)⟩
set_option maxRecDepth 100000 in
theorem lifted (os : Os) (started : os.Started) (H : Type) (enc : TypeId × Value → H) :
    ReturnsInHanded {} Tryz.checked os 4 .any (Rows.notesBoundSpec.pre6 enc Tryz.prog Tryz.f4 Rows.notesBoundRow.domain false) (Rows.notesBoundSpec.post enc Tryz.prog Tryz.f4 false true false false) := by
  refine returnsInHanded_of_change (C := Tryz.checked) own started (by kernel_rfl) Tryz.func4
    (ChangeSpec.witness6 (enc := enc) (C := Tryz.checked) false ⟨#[], #[.int .i64 0, .int .i64 0], []⟩ 8 (by kernel_rfl) (by kernel_rfl) (by kernel_rfl) (by kernel_rfl)) ?_
  intro W base args ds gs before hval0 hW hcnd _
  exact contract H enc W base args ds gs before hval0 hW
theorem said : Rows.NotesBoundSaid :=
  OpenClaim.holds_of_wide 4 Tryz.f4 rfl rfl rfl rfl rfl rfl rfl ⟨rfl, rfl, rfl, rfl, rfl⟩ rfl rfl rfl rfl rfl (by kernel_rfl) Tryz.func4 (by kernel_rfl)
    (of_decide_eq_true (by kernel_rfl)) (by unfold Func.isWrapper; first | (rw [if_pos (by decide +kernel)]; kernel_rfl) | (rw [if_neg (by decide +kernel)]; exact ⟨rfl, rfl⟩))
    (fun os started H enc _ => lifted os started H enc)
#print axioms said
end Go.Proofs.YtfgldnbccopplaaGreat
end
