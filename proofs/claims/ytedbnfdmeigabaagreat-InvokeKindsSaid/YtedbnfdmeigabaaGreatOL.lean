/-
  PROVED: citadellaw21.InvokeKinds returns true at every input; its arguments read as before. Condition: none.
-/
import Derived.Test.YtedbnfdmeigabaaGreatRows
import Derived.Test.YtedbnfdmeigabaaGreatLen
import Derived.Test.YtedbnfdmeigabaaGreatRA
import Derived.ProofKit
import Derived.OpenShut
import Derived.Deep.DeepHandedRow
set_option linter.unusedSimpArgs false
set_option linter.unusedVariables false
noncomputable section
namespace Go.Proofs.YtedbnfdmeigabaaGreat
open Go Go.Ev Go.Ev.X Go.ChangeShapes Go.WideShapes Go.ChangeAt Go.RowKit
theorem lenOk {E : Env} : LenA E := fun E' _ => len64_ok Tryz.call195 (fun x w h0 h1 => Tryz.bits_Len64 x w h0 h1)
theorem sat_nil {E : Env} (ρ : Rho) (w : World) : Sat E ρ ⟨.h, .h, .e⟩ w :=
  ⟨fun p o hp => absurd (show (none : Option O) = some o from (PT.get_e p).symm.trans hp) (by simp), fun p q o o' hp => absurd (show (none : Option O) = some o from (PT.get_e p).symm.trans hp) (by simp),
   fun p o hp => absurd (show (none : Option O) = some o from (PT.get_e p).symm.trans hp) (by simp)⟩
theorem ext_below {ρ ρ' : Rho} {h' : H} {w w' : World} (x : Ext ρ ⟨.h, .h, .e⟩ w ρ' h' w') : Below w.heap.size w w' :=
  ⟨x.os, x.tape, x.output, x.size, fun b hb => x.keep b hb fun p o hp => absurd (show (none : Option O) = some o from (PT.get_e p).symm.trans hp) (by simp)⟩
/-- what a run that ends well gives -/
theorem law_of_run {E : Env} {F : Nat} {l : List V} {fa : Fa} {inner : CallT} (hi : CallOk E Tryz.prog inner) (hfa : FaOk E fa) (hr : callS cx1 0 inner F l ⟨.h, .h, .e⟩ fa Go.Ev.X.endB = 0) (hl : bdL 1 l) (W : World) :
    Calls Tryz.prog F (γL E (fun _ => ⟨0, 0⟩) l).toArray W fun e w' => e = .returned (.bool true) ∧ Below W.heap.size W w' := by
  obtain ⟨_, v, h', fa', hk, _, hc⟩ := callS_run (cx1_ok lenOk) 0 hi _ _ _ _ _ hr hfa
  obtain ⟨hv, _⟩ := bc_ok (show bc (V.beq v (.b true)) 0 1 = 0 from hk) (by simp)
  have hv := V.beq_ok hv
  subst hv
  refine (hc (fun _ => ⟨0, 0⟩) W hl (sat_nil _ W)).mono ?_
  rintro e w' ⟨ρ', rfl, _, x, _⟩
  exact ⟨rfl, ext_below x⟩
theorem cxA (E : Env) : CxOk E Tryz.prog (tyOf Tryz.prog) cx1 := cx1_ok lenOk
theorem clA (E : Env) : CallOk E Tryz.prog call1 := call1_ok lenOk
theorem callA' (E : Env) : CallOk E Tryz.prog callA := callA_ok (cxA E) (clA E)
theorem sameS_ok {E : Env} {inner : CallT} (h : CallOk E Tryz.prog inner) : CallOk E Tryz.prog (sameS inner) := by
  intro G l hh fa k hk hfa
  have hk : bc (Nat.beq G 31) (sameT l hh fa k) (inner G l hh fa k) = 0 := hk
  cases e : Nat.beq G 31 with
  | true =>
    rw [e] at hk
    exact same_ok Tryz.call31 Go.Proofs.YtedbnfdmeigabaaGreat.sameC G l hh fa k (by show bc (Nat.beq G 31) _ 1 = 0; rw [e]; exact hk) hfa
  | false => rw [e] at hk; exact h G l hh fa k hk hfa
theorem bK_ok {E : Env} {x s : Nat} (h0 : -9223372036854775808 ≤ E.i 0 ∧ E.i 0 ≤ 9223372036854775807) (hx : pickI (E.i 0) 36 = (x : Nat)) (hp : runP x s = 0) : CallOk E Tryz.prog (bK s) := by
  have hpl : CallOk E Tryz.prog (plS x) := pick_pure (v := (.i .i64 (.ofNat x))) Tryz.call10 (fun E' _ => cxA E') (fun E' _ => clA E') pk36_0 pk36_1 h0 trivial (fun ρ => by simp only [V.γ, hx]; rfl) (clA E)
  refine pureS_ok Tryz.call27 trivial (fun ρ w => ?_) (sameS_ok (msS_ok rfl abt FaOk.nil (clA E) (callA' E)))
  refine (val_of_run (cxA E) hpl FaOk.nil hp ⟨trivial, trivial⟩ ρ w).mono ?_
  rintro e w' ⟨⟨ρ', rfl⟩, hb⟩
  exact ⟨rfl, hb⟩
theorem kinds_any (W : World) (a0 a1 a2 : Int) (b0 : -9223372036854775808 ≤ a0 ∧ a0 ≤ 9223372036854775807) (b1 : -9223372036854775808 ≤ a1 ∧ a1 ≤ 9223372036854775807) (b2 : -9223372036854775808 ≤ a2 ∧ a2 ≤ 9223372036854775807) :
    Calls Tryz.prog 5 #[.int .i64 a0, .int .i64 a1, .int .i64 a2] W fun e w' => e = .returned (.bool true) ∧ Below W.heap.size W w' := by
  obtain ⟨E, hE⟩ : ∃ E : Env, E = ⟨fun i => if i = 0 then a0 else if i = 1 then a1 else a2, fun _ => false, fun _ => ⟨0, 0, 0, 0, 0, 0, 0, #[], (0, 0)⟩⟩ := ⟨_, rfl⟩
  have h0 : E.i 0 = a0 := by rw [hE]; rfl
  have h1 : E.i 1 = a1 := by rw [hE]; rfl
  have h2 : E.i 2 = a2 := by rw [hE]; rfl
  have hfa : FaOk E ⟨[], rgK⟩ := ⟨fun _ _ hm => (by cases hm), fun i a b hm => (by
    rcases List.mem_cons.1 hm with e | hm
    · cases e; rw [h1]; exact b1
    · rcases List.mem_cons.1 hm with e | hm
      · cases e; rw [h2]; exact b2
      · cases hm)⟩
  obtain ⟨p1, p2⟩ := pickI_lt (c := E.i 0) (n := 36) (by omega)
  obtain ⟨x, hx⟩ := Int.eq_ofNat_of_zero_le p1
  obtain ⟨s, lo, hi, ok⟩ := rb x (by omega)
  have hi' := bK_ok (by rw [h0]; exact b0) hx ok.place
  have fin : ∀ lv : V, runK s lv = 0 → bdL 1 [.si .i64 (.v 0), lv, .si .i64 (.v 2)] → lv.γ E (fun _ => ⟨0, 0⟩) = .int .i64 a1 →
      Calls Tryz.prog 5 #[.int .i64 a0, .int .i64 a1, .int .i64 a2] W fun e w' => e = .returned (.bool true) ∧ Below W.heap.size W w' := by
    intro lv hr hb hg
    have := law_of_run hi' hfa hr hb W
    have hargs : (γL E (fun _ => ⟨0, 0⟩) [.si .i64 (.v 0), lv, .si .i64 (.v 2)]).toArray = #[.int .i64 a0, .int .i64 a1, .int .i64 a2] := by
      simp only [γL, hg, V.γ, SE.den, h0, h2]
    rw [hargs] at this
    exact this
  by_cases c1 : a1 < lo
  · refine fin _ ok.below ⟨trivial, trivial, trivial, trivial⟩ ?_
    simp only [belowV, V.γ, SE.den, h1]
    split <;> (congr 1 <;> omega)
  · by_cases c2 : hi < a1
    · refine fin _ ok.above ⟨trivial, trivial, trivial, trivial⟩ ?_
      simp only [aboveV, V.γ, SE.den, h1]
      split <;> (congr 1 <;> omega)
    · exact fin _ (ok.at_ a1 (by omega) (by omega)) ⟨trivial, trivial, trivial, trivial⟩ rfl
theorem trodAll_stays {H : Type} {enc : TypeId × Value → H} {P : Program} (hl : laidOutB P = true) {W W' : World} (hb : Below W.heap.size W W') :
    ∀ (ts : List TypeId) (vs : List Value) (ds : List (DataW H)) (ps : List MemPlace), (∀ t ∈ ts, P.readableRec t = true ∧ t < P.types.size) →
    DataW.TrodAll enc P W 0 (fun _ => true) true ts vs ds ps → (∀ x ∈ ps, x.block < W.heap.size) → DataW.TrodAll enc P W' 0 (fun b => decide (b < W.heap.size)) true ts vs ds ps := by
  intro ts
  induction ts with
  | nil =>
    intro vs ds ps _ h _
    obtain ⟨rfl, rfl, rfl⟩ := trodAll_nil h
    exact trodAll_mk0
  | cons t ts ih =>
    intro vs ds ps hr h hlt
    obtain ⟨v0, vs0, d0, ds0, p0, q0, rfl, rfl, rfl, h0, r0⟩ := trodAll_cons h
    have h1 := hr t (by simp)
    exact trodAll_cons_mk (Below.trod hl h1.1 h1.2 h0 hb (fun x hx => hlt x (by simp [hx]))) (ih _ _ _ (fun t' ht' => hr t' (by simp [ht'])) r0 (fun x hx => hlt x (by simp [hx])))

theorem law_post {H : Type} {enc : TypeId × Value → H} {P : Program} {f : Func} {s : ChangeSpec} {W W' : World} {args : Array Value} {ds gs : List (DataW H)} {before : List MemPlace} {tb : TypeId}
    (hl : laidOutB P = true) (hr : ∀ t ∈ f.params.toList, P.readableRec t = true ∧ t < P.types.size) (hvars : s.vars = []) (hres : f.resultTypes = #[tb]) (htb : P.underlying tb = some .bool)
    (hW : DataW.Whole enc P f.params.toList s.vars false W args.toList ds gs before) (hb : Below W.heap.size W W')
    (hfn : s.fn H (ds ++ gs) = { results := [.lit (.bool true)], args := ds }) :
    s.post enc P f false true false false W args (.bool true) W' := by
  have hW0 := hW
  obtain ⟨p, q, hA, hV, hpq, hfz, hnd⟩ := hW
  refine ⟨ds, gs, before, [], p, [], hW0, ?_, ?_, ?_, hb.frame _, fun h => by cases h⟩
  · rw [hfn, hres]
    exact trodAll_cons_mk (shut_bool htb true) trodAll_mk0
  · rw [hfn]
    refine trodAll_stays hl hb _ _ _ _ hr hA (fun x hx => ?_)
    exact hW0.lt x (by rw [hpq]; simp [hx])
  · rw [hvars, hfn]
    rfl
theorem own : ownKnob Tryz.prog.godebug = none := by kernel_rfl
theorem laidOut : laidOutB Tryz.prog = true := by kernel_rfl
set_option maxRecDepth 100000 in
theorem contract (H : Type) (enc : TypeId × Value → H) (W : World) (base : Nat) (args : Array Value) (ds gs : List (DataW H)) (before : List MemPlace)
    (hval0 : ∀ (j : Nat) t v, Tryz.f5.params[j]? = some t → args[j]? = some v → Value.okWide Tryz.prog W .any base t v)
    (hW : DataW.Whole enc Tryz.prog Tryz.f5.params.toList Rows.invokeKindsSpec.vars false W args.toList ds gs before) :
    Calls Tryz.prog 5 args W fun e W' => ∃ v, e = .returned v ∧ Rows.invokeKindsSpec.post enc Tryz.prog Tryz.f5 false true false false W args v W' := by
  have hval := hval0
  have hW' := hW
  obtain ⟨p, q, hA0, hV, rfl, hfz, hnd⟩ := hW
  have hA : DataW.TrodAll enc Tryz.prog W 0 (fun _ => true) true Tryz.f5.params.toList args.toList ds p := hA0
  rw [Tryz.params5] at hA hval
  obtain ⟨v0, vs0, d0, ds0, p0, q0, hargs, rfl, rfl, h0, r0⟩ := trodAll_cons hA
  obtain ⟨v1, vs1, d1, ds1, p1, q1, rfl, rfl, rfl, h1, r1⟩ := trodAll_cons r0
  obtain ⟨v2, vs2, d2, ds2, p2, q2, rfl, rfl, rfl, h2, r2⟩ := trodAll_cons r1
  obtain ⟨rfl, rfl, rfl⟩ := trodAll_nil r2
  obtain rfl : args = #[v0, v1, v2] := by cases args; simp_all
  obtain ⟨a0, rfl, rfl, rfl, w0⟩ := open_int Tryz.underlying3 (hval 0 3 v0 rfl rfl) h0
  have b0 : -9223372036854775808 ≤ a0 ∧ a0 ≤ 9223372036854775807 := by simp [Lit.wf, IntKind.min, IntKind.max, IntKind.signed, IntKind.bits] at w0; omega
  obtain ⟨a1, rfl, rfl, rfl, w1⟩ := open_int Tryz.underlying3 (hval 1 3 v1 rfl rfl) h1
  have b1 : -9223372036854775808 ≤ a1 ∧ a1 ≤ 9223372036854775807 := by simp [Lit.wf, IntKind.min, IntKind.max, IntKind.signed, IntKind.bits] at w1; omega
  obtain ⟨a2, rfl, rfl, rfl, w2⟩ := open_int Tryz.underlying3 (hval 2 3 v2 rfl rfl) h2
  have b2 : -9223372036854775808 ≤ a2 ∧ a2 ≤ 9223372036854775807 := by simp [Lit.wf, IntKind.min, IntKind.max, IntKind.signed, IntKind.bits] at w2; omega
  obtain ⟨rfl, rfl⟩ := trodVars_none hV
  have hrun : Calls Tryz.prog 5 #[.int .i64 a0, .int .i64 a1, .int .i64 a2] W fun e w' => e = .returned (.bool true) ∧ Below W.heap.size W w' := kinds_any W a0 a1 a2 b0 b1 b2
  refine hrun.mono fun e W' ⟨he, hk⟩ => ?_
  subst he
  refine ⟨_, rfl, law_post laidOut ?_ rfl rfl Tryz.underlying4 hW' hk rfl⟩
  rw [Tryz.params5]
  intro t ht
  simp only [List.mem_cons, List.not_mem_nil, or_false] at ht
  rcases ht with rfl | rfl | rfl
  all_goals exact ⟨by kernel_rfl, of_decide_eq_true (by kernel_rfl)⟩
set_option maxRecDepth 100000 in
theorem lifted (os : Os) (started : os.Started) (H : Type) (enc : TypeId × Value → H) :
    ReturnsInHanded {} Tryz.checked os 5 .any (Rows.invokeKindsSpec.pre6 enc Tryz.prog Tryz.f5 Rows.invokeKindsRow.domain false) (Rows.invokeKindsSpec.post enc Tryz.prog Tryz.f5 false true false false) := by
  refine returnsInHanded_of_change (C := Tryz.checked) own started (by kernel_rfl) Tryz.func5
    (ChangeSpec.witness6 (enc := enc) (C := Tryz.checked) false ⟨#[], #[.int .i64 0, .int .i64 0, .int .i64 0], []⟩ 8 (by kernel_rfl) (by kernel_rfl) (by kernel_rfl) (by kernel_rfl)) ?_
  intro W base args ds gs before hval0 hW hcnd _
  exact contract H enc W base args ds gs before hval0 hW
set_option maxRecDepth 1000000 in
theorem said : Rows.InvokeKindsSaid :=
  OpenClaim.holds_of_wide 5 Tryz.f5 rfl rfl rfl rfl rfl rfl rfl ⟨rfl, rfl, rfl, rfl, rfl⟩ rfl rfl rfl rfl rfl (by kernel_rfl) Tryz.func5 (by kernel_rfl)
    (of_decide_eq_true (by kernel_rfl)) (by unfold Func.isWrapper; first | (rw [if_pos (by decide +kernel)]; kernel_rfl) | (rw [if_neg (by decide +kernel)]; exact ⟨rfl, rfl⟩))
    (fun os started H enc _ => lifted os started H enc)
#print axioms said
end Go.Proofs.YtedbnfdmeigabaaGreat
end
