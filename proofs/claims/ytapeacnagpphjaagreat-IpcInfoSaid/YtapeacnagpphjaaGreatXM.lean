/-
  PROVED: citadellaw17.IpcInfo returns true at every input; its arguments read as before. Condition: none.
-/
import Derived.Test.YtapeacnagpphjaaGreatRows
import Derived.Test.YtapeacnagpphjaaGreatLen
import Derived.Test.YtapeacnagpphjaaGreatXK
import Derived.ProofKit
import Derived.OpenShut
import Derived.Deep.DeepHandedRow
set_option linter.unusedSimpArgs false
set_option linter.unusedVariables false
noncomputable section
namespace Go.Proofs.YtapeacnagpphjaaGreat
open Go Go.Ev Go.Ev.X Go.ChangeShapes Go.WideShapes Go.ChangeAt Go.RowKit
theorem lenOk {E : Env} : LenOk E := len64_ok Tryz.call143 (fun x w h0 h1 => Tryz.bits_Len64 x w h0 h1)
theorem cxI_ok {E : Env} : CxOk E Tryz.prog (tyOf Tryz.prog) cxI :=
  ⟨tyOk_tyOf, mixedX, fun F i h => fnX_ok h, hookOne (C := fun _ => none) (aHook_ok (cx1_ok lenOk) (call1_ok lenOk)) hookNone⟩
theorem sat_nil {E : Env} (ρ : Rho) (w : World) : Sat E ρ ⟨.h, .h, .e⟩ w :=
  ⟨fun p o hp => absurd (show (none : Option O) = some o from (PT.get_e p).symm.trans hp) (by simp), fun p q o o' hp => absurd (show (none : Option O) = some o from (PT.get_e p).symm.trans hp) (by simp),
   fun p o hp => absurd (show (none : Option O) = some o from (PT.get_e p).symm.trans hp) (by simp)⟩
theorem ext_below {ρ ρ' : Rho} {h' : H} {w w' : World} (x : Ext ρ ⟨.h, .h, .e⟩ w ρ' h' w') : Below w.heap.size w w' :=
  ⟨x.os, x.tape, x.output, x.size, fun b hb => x.keep b hb fun p o hp => absurd (show (none : Option O) = some o from (PT.get_e p).symm.trans hp) (by simp)⟩
theorem allB_mem {α : Type} {p : α → Bool} : ∀ {l : List α}, allB p l = true → ∀ x ∈ l, p x = true
  | [], _, x, hx => by cases hx
  | a :: r, h, x, hx => by
    have h : bc (p a) (allB p r) false = true := h
    rw [bc_eqB] at h
    simp only [Bool.and_eq_true] at h
    rcases List.mem_cons.1 hx with e | e
    · rw [e]; exact h.1
    · exact allB_mem h.2 x e
theorem info_any (W : World) (a0 a1 a2 a3 : Int) (b0 : -9223372036854775808 ≤ a0 ∧ a0 ≤ 9223372036854775807) (b1 : -9223372036854775808 ≤ a1 ∧ a1 ≤ 9223372036854775807)
    (b2 : -9223372036854775808 ≤ a2 ∧ a2 ≤ 9223372036854775807) (b3 : 0 ≤ a3 ∧ a3 ≤ 18446744073709551615) :
    Calls Tryz.prog 3 #[.int .i64 a0, .int .i64 a1, .int .i64 a2, .int .u64 a3] W fun e w' => e = .returned (.bool true) ∧ Below W.heap.size W w' := by
  obtain ⟨E, hE⟩ : ∃ E : Env, E = ⟨fun i => if i = 0 then a0 else if i = 1 then a1 else if i = 2 then a2 else a3, fun _ => false⟩ := ⟨_, rfl⟩
  have e0 : E.i 0 = a0 := by rw [hE]; rfl
  have e1 : E.i 1 = a1 := by rw [hE]; rfl
  have e2 : E.i 2 = a2 := by rw [hE]; rfl
  have e3 : E.i 3 = a3 := by rw [hE]; rfl
  have hb : BdI E := ⟨by rw [e0]; exact b0, by rw [e1]; exact b1, by rw [e2]; exact b2, by rw [e3]; exact b3⟩
  obtain ⟨l, hl, hfa⟩ := Go.Ev.X.cover hb
  have hrun := allB_mem info_run l hl
  have hrun : callT cxI 100 3 argsI ⟨.h, .h, .e⟩ ⟨l, rrI⟩ endI = 0 := by simpa using hrun
  obtain ⟨_, v, h', fa', hk, _, hc⟩ := callT_run cxI_ok 100 _ _ _ _ _ hrun hfa
  obtain ⟨hv, _⟩ := bc_ok (show bc (V.beq v (.b true)) 0 1 = 0 from hk) (by simp)
  have hv := V.beq_ok hv
  subst hv
  have hargs : (γL E (fun _ => ⟨0, 0⟩) argsI).toArray = #[.int .i64 a0, .int .i64 a1, .int .i64 a2, .int .u64 a3] := by
    simp [argsI, γL, V.γ, SE.den, e0, e1, e2, e3]
  have := hc (fun _ => ⟨0, 0⟩) W ⟨trivial, trivial, trivial, trivial, trivial⟩ (sat_nil _ W)
  rw [hargs] at this
  refine this.mono ?_
  rintro e w' ⟨ρ', rfl, _, x, _⟩
  exact ⟨rfl, ext_below x⟩
theorem trodAll_stays {H : Type} {enc : TypeId × Value → H} {P : Program} (hl : laidOutB P = true) {W W' : World} (hb : Below W.heap.size W W') :
    ∀ (ts : List TypeId) (vs : List Value) (ds : List (DataW H)) (ps : List MemPlace), (∀ t ∈ ts, P.readableRec t = true ∧ t < P.types.size) →
    DataW.TrodAll enc P W 0 (fun _ => true) true ts vs ds ps → (∀ x ∈ ps, x.block < W.heap.size) → DataW.TrodAll enc P W' 0 (fun b => decide (b < W.heap.size)) true ts vs ds ps := by
  intro ts
  induction ts with
  | nil =>
    intro vs ds ps _ h _
    obtain ⟨rfl, rfl, rfl⟩ := trodAll_nil h
    exact trodAll_mk0
  | cons t ts ih =>
    intro vs ds ps hr h hlt
    obtain ⟨v0, vs0, d0, ds0, p0, q0, rfl, rfl, rfl, h0, r0⟩ := trodAll_cons h
    have h1 := hr t (by simp)
    exact trodAll_cons_mk (Below.trod hl h1.1 h1.2 h0 hb (fun x hx => hlt x (by simp [hx]))) (ih _ _ _ (fun t' ht' => hr t' (by simp [ht'])) r0 (fun x hx => hlt x (by simp [hx])))

theorem law_post {H : Type} {enc : TypeId × Value → H} {P : Program} {f : Func} {s : ChangeSpec} {W W' : World} {args : Array Value} {ds gs : List (DataW H)} {before : List MemPlace} {tb : TypeId}
    (hl : laidOutB P = true) (hr : ∀ t ∈ f.params.toList, P.readableRec t = true ∧ t < P.types.size) (hvars : s.vars = []) (hres : f.resultTypes = #[tb]) (htb : P.underlying tb = some .bool)
    (hW : DataW.Whole enc P f.params.toList s.vars false W args.toList ds gs before) (hb : Below W.heap.size W W')
    (hfn : s.fn H (ds ++ gs) = { results := [.lit (.bool true)], args := ds }) :
    s.post enc P f false true false false W args (.bool true) W' := by
  have hW0 := hW
  obtain ⟨p, q, hA, hV, hpq, hfz, hnd⟩ := hW
  refine ⟨ds, gs, before, [], p, [], hW0, ?_, ?_, ?_, hb.frame _, fun h => by cases h⟩
  · rw [hfn, hres]
    exact trodAll_cons_mk (shut_bool htb true) trodAll_mk0
  · rw [hfn]
    refine trodAll_stays hl hb _ _ _ _ hr hA (fun x hx => ?_)
    exact hW0.lt x (by rw [hpq]; simp [hx])
  · rw [hvars, hfn]
    rfl
theorem own : ownKnob Tryz.prog.godebug = none := by kernel_rfl
theorem laidOut : laidOutB Tryz.prog = true := by kernel_rfl
set_option maxRecDepth 100000 in
theorem contract (H : Type) (enc : TypeId × Value → H) (W : World) (base : Nat) (args : Array Value) (ds gs : List (DataW H)) (before : List MemPlace)
    (hval0 : ∀ (j : Nat) t v, Tryz.f3.params[j]? = some t → args[j]? = some v → Value.okWide Tryz.prog W .any base t v)
    (hW : DataW.Whole enc Tryz.prog Tryz.f3.params.toList Rows.ipcInfoSpec.vars false W args.toList ds gs before) :
    Calls Tryz.prog 3 args W fun e W' => ∃ v, e = .returned v ∧ Rows.ipcInfoSpec.post enc Tryz.prog Tryz.f3 false true false false W args v W' := by
  have hval := hval0
  have hW' := hW
  obtain ⟨p, q, hA0, hV, rfl, hfz, hnd⟩ := hW
  have hA : DataW.TrodAll enc Tryz.prog W 0 (fun _ => true) true Tryz.f3.params.toList args.toList ds p := hA0
  rw [Tryz.params3] at hA hval
  obtain ⟨v0, vs0, d0, ds0, p0, q0, hargs, rfl, rfl, h0, r0⟩ := trodAll_cons hA
  obtain ⟨v1, vs1, d1, ds1, p1, q1, rfl, rfl, rfl, h1, r1⟩ := trodAll_cons r0
  obtain ⟨v2, vs2, d2, ds2, p2, q2, rfl, rfl, rfl, h2, r2⟩ := trodAll_cons r1
  obtain ⟨v3, vs3, d3, ds3, p3, q3, rfl, rfl, rfl, h3, r3⟩ := trodAll_cons r2
  obtain ⟨rfl, rfl, rfl⟩ := trodAll_nil r3
  obtain rfl : args = #[v0, v1, v2, v3] := by cases args; simp_all
  obtain ⟨a0, rfl, rfl, rfl, w0⟩ := open_int Tryz.underlying3 (hval 0 3 v0 rfl rfl) h0
  have b0 : -9223372036854775808 ≤ a0 ∧ a0 ≤ 9223372036854775807 := by simp [Lit.wf, IntKind.min, IntKind.max, IntKind.signed, IntKind.bits] at w0; omega
  obtain ⟨a1, rfl, rfl, rfl, w1⟩ := open_int Tryz.underlying3 (hval 1 3 v1 rfl rfl) h1
  have b1 : -9223372036854775808 ≤ a1 ∧ a1 ≤ 9223372036854775807 := by simp [Lit.wf, IntKind.min, IntKind.max, IntKind.signed, IntKind.bits] at w1; omega
  obtain ⟨a2, rfl, rfl, rfl, w2⟩ := open_int Tryz.underlying3 (hval 2 3 v2 rfl rfl) h2
  have b2 : -9223372036854775808 ≤ a2 ∧ a2 ≤ 9223372036854775807 := by simp [Lit.wf, IntKind.min, IntKind.max, IntKind.signed, IntKind.bits] at w2; omega
  obtain ⟨a3, rfl, rfl, rfl, w3⟩ := open_int Tryz.underlying22 (hval 3 22 v3 rfl rfl) h3
  have b3 : 0 ≤ a3 ∧ a3 ≤ 18446744073709551615 := by simp [Lit.wf, IntKind.min, IntKind.max, IntKind.signed, IntKind.bits] at w3; omega
  obtain ⟨rfl, rfl⟩ := trodVars_none hV
  refine (info_any W a0 a1 a2 a3 b0 b1 b2 b3).mono fun e W' ⟨he, hk⟩ => ?_
  subst he
  refine ⟨_, rfl, law_post laidOut ?_ rfl rfl Tryz.underlying4 hW' hk rfl⟩
  rw [Tryz.params3]
  intro t ht
  simp only [List.mem_cons, List.not_mem_nil, or_false] at ht
  rcases ht with rfl | rfl | rfl | rfl
  all_goals exact ⟨by kernel_rfl, of_decide_eq_true (by kernel_rfl)⟩
set_option maxRecDepth 100000 in
theorem lifted (os : Os) (started : os.Started) (H : Type) (enc : TypeId × Value → H) :
    ReturnsInHanded {} Tryz.checked os 3 .any (Rows.ipcInfoSpec.pre6 enc Tryz.prog Tryz.f3 Rows.ipcInfoRow.domain false) (Rows.ipcInfoSpec.post enc Tryz.prog Tryz.f3 false true false false) := by
  refine returnsInHanded_of_change (C := Tryz.checked) own started (by kernel_rfl) Tryz.func3
    (ChangeSpec.witness6 (enc := enc) (C := Tryz.checked) false ⟨#[], #[.int .i64 0, .int .i64 0, .int .i64 0, .int .u64 0], []⟩ 8 (by kernel_rfl) (by kernel_rfl) (by kernel_rfl) (by kernel_rfl)) ?_
  intro W base args ds gs before hval0 hW hcnd _
  exact contract H enc W base args ds gs before hval0 hW
theorem said : Rows.IpcInfoSaid :=
  OpenClaim.holds_of_wide 3 Tryz.f3 rfl rfl rfl rfl rfl rfl rfl ⟨rfl, rfl, rfl, rfl, rfl⟩ rfl rfl rfl rfl rfl (by kernel_rfl) Tryz.func3 (by kernel_rfl)
    (of_decide_eq_true (by kernel_rfl)) (by unfold Func.isWrapper; first | (rw [if_pos (by decide +kernel)]; kernel_rfl) | (rw [if_neg (by decide +kernel)]; exact ⟨rfl, rfl⟩))
    (fun os started H enc _ => lifted os started H enc)
#print axioms said
end Go.Proofs.YtapeacnagpphjaaGreat
end
