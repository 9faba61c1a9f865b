/-
  PROVED: citadellaw17.IpcCalls returns true at every input; its arguments read as before. Condition: none.
-/
import Derived.Test.YtapeacnagpphjaaGreatRows
import Derived.Test.YtapeacnagpphjaaGreatLen
import Derived.Test.YtapeacnagpphjaaGreatNJ
import Derived.Test.YtapeacnagpphjaaGreatNT0
import Derived.Test.YtapeacnagpphjaaGreatNT1
import Derived.Test.YtapeacnagpphjaaGreatNT2
import Derived.Test.YtapeacnagpphjaaGreatNT3
import Derived.Test.YtapeacnagpphjaaGreatNT4
import Derived.Test.YtapeacnagpphjaaGreatT9
import Derived.ProofKit
import Derived.OpenShut
import Derived.Deep.DeepHandedRow
set_option linter.unusedSimpArgs false
set_option linter.unusedVariables false
noncomputable section
namespace Go.Proofs.YtapeacnagpphjaaGreat
open Go Go.Ev Go.Ev.X Go.ChangeShapes Go.WideShapes Go.ChangeAt Go.RowKit
theorem lenOk {E : Env} : LenOk E := len64_ok Tryz.call143 (fun x w h0 h1 => Tryz.bits_Len64 x w h0 h1)
theorem sat_nil {E : Env} (ρ : Rho) (w : World) : Sat E ρ ⟨.h, .h, .e⟩ w :=
  ⟨fun p o hp => absurd (show (none : Option O) = some o from (PT.get_e p).symm.trans hp) (by simp), fun p q o o' hp => absurd (show (none : Option O) = some o from (PT.get_e p).symm.trans hp) (by simp),
   fun p o hp => absurd (show (none : Option O) = some o from (PT.get_e p).symm.trans hp) (by simp)⟩
theorem ext_below {ρ ρ' : Rho} {h' : H} {w w' : World} (x : Ext ρ ⟨.h, .h, .e⟩ w ρ' h' w') : Below w.heap.size w w' :=
  ⟨x.os, x.tape, x.output, x.size, fun b hb => x.keep b hb fun p o hp => absurd (show (none : Option O) = some o from (PT.get_e p).symm.trans hp) (by simp)⟩
/-- what a run that ends well gives -/
theorem law_of_run {E : Env} {F : Nat} {l : List V} {fa : Fa} {inner : CallT} (hi : CallOk E Tryz.prog inner) (hfa : FaOk E fa) (hr : callS cx1 0 inner F l ⟨.h, .h, .e⟩ fa endB = 0) (hl : bdL 1 l) (W : World) :
    Calls Tryz.prog F (γL E (fun _ => ⟨0, 0⟩) l).toArray W fun e w' => e = .returned (.bool true) ∧ Below W.heap.size W w' := by
  obtain ⟨_, v, h', fa', hk, _, hc⟩ := callS_run (cx1_ok lenOk) 0 hi _ _ _ _ _ hr hfa
  obtain ⟨hv, _⟩ := bc_ok (show bc (V.beq v (.b true)) 0 1 = 0 from hk) (by simp)
  have hv := V.beq_ok hv
  subst hv
  refine (hc (fun _ => ⟨0, 0⟩) W hl (sat_nil _ W)).mono ?_
  rintro e w' ⟨ρ', rfl, _, x, _⟩
  exact ⟨rfl, ext_below x⟩
theorem calls_E (E : Env) (W : World) (h : BdM E) (hb : -9223372036854775808 ≤ E.i 32 ∧ E.i 32 ≤ 9223372036854775807) :
    Calls Tryz.prog 5 (γL E (fun _ => ⟨0, 0⟩) argsN).toArray W fun e w' => e = .returned (.bool true) ∧ Below W.heap.size W w' := by
  have h1 : CallOk E Tryz.prog call1 := call1_ok lenOk
  have hA : CallOk E Tryz.prog callA := callA_ok (cx1_ok lenOk) h1
  have hl : bdL 1 argsN := ⟨by simp [argsN, V.bd, bdL], by simp [argsN, V.bd, bdL], trivial, trivial⟩
  rcases (by omega : E.i 32 ≤ -1 ∨ 268435456 ≤ E.i 32 ∨ (0 ≤ E.i 32 ∧ E.i 32 ≤ 268435455)) with h2 | h2 | ⟨b0, b1⟩
  · have hf := faNng_ok h ⟨hb.1, h2⟩
    exact law_of_run (nIn5_ok h1 hA hf) hf n_run5 hl W
  · have hf := faNbg_ok h ⟨h2, hb.2⟩
    exact law_of_run (nIn6_ok h1 hA hf) hf n_run6 hl W
  · have hc := faN_ok h b0 b1
    have hs : ∃ c ∈ ([(flNx0, memoS nm41 call1), (flNx1, memoS nm44 call1), (flNx2, memoS nm47 call1), (flNx3, memoS nm50 call1), (flNx4, memoS nm53 call1)] : List (List (SB × Bool) × CallT)), (∀ s b, (s, b) ∈ c.1 → s.den E = b) ∧ CallOk E Tryz.prog c.2 := by
      rcases (by omega : E.i 17 % 16 = 0 ∨ E.i 17 % 16 = 1 ∨ E.i 17 % 16 = 2 ∨ E.i 17 % 16 = 3 ∨ 4 ≤ E.i 17 % 16) with hn | hn | hn | hn | hn
      · exact ⟨(flNx0, memoS nm41 call1), (.head _), flNx0_ok h hn, msS_ok rfl nt41 (faNn0_ok h b0 b1 hn) h1 h1⟩
      · exact ⟨(flNx1, memoS nm44 call1), (.tail _ (.head _)), flNx1_ok h hn, msS_ok rfl nt44 (faNn1_ok h b0 b1 hn) h1 h1⟩
      · exact ⟨(flNx2, memoS nm47 call1), (.tail _ (.tail _ (.head _))), flNx2_ok h hn, msS_ok rfl nt47 (faNn2_ok h b0 b1 hn) h1 h1⟩
      · exact ⟨(flNx3, memoS nm50 call1), (.tail _ (.tail _ (.tail _ (.head _)))), flNx3_ok h hn, msS_ok rfl nt50 (faNn3_ok h b0 b1 hn) h1 h1⟩
      · exact ⟨(flNx4, memoS nm53 call1), (.tail _ (.tail _ (.tail _ (.tail _ (.head _))))), flNx4_ok h hn, msS_ok rfl nt53 (faNn4_ok h b0 b1 hn) h1 h1⟩
    rcases (by omega : E.i 1 % 16 = 0 ∨ E.i 1 % 16 = 1 ∨ E.i 1 % 16 = 2 ∨ E.i 1 % 16 = 3 ∨ 4 ≤ E.i 1 % 16) with hn | hn | hn | hn | hn
    · have hf := faNm0_ok h b0 b1 hn
      exact law_of_run (nIn0_ok h1 hA hc hs hf) hf n_run0 hl W
    · have hf := faNm1_ok h b0 b1 hn
      exact law_of_run (nIn1_ok h1 hA hc hs hf) hf n_run1 hl W
    · have hf := faNm2_ok h b0 b1 hn
      exact law_of_run (nIn2_ok h1 hA hc hs hf) hf n_run2 hl W
    · have hf := faNm3_ok h b0 b1 hn
      exact law_of_run (nIn3_ok h1 hA hc hs hf) hf n_run3 hl W
    · have hf := faNm4_ok h b0 b1 hn
      exact law_of_run (nIn4_ok h1 hA hc hs hf) hf n_run4 hl W
/-! an array of words that came in -/
theorem mapM_words {H : Type} {enc : TypeId × Value → H} {P : Program} {e : TypeId} {q : IntKind} {W : World} {base : Nat} {sp : Nat → Bool} {held : Bool} (he : P.underlying e = some (.int q)) {m : Nat} {cs : List Value} :
    ∀ (L : List Nat) (xs : List (DataW H × List MemPlace)), L.mapM (fun i => DataW.trod enc P W base sp held m e ((cs.drop (i * 1)).take 1)) = some xs → ∀ i ∈ L, ∃ a : Int, cs[i]? = some (.int q a) ∧ (Lit.int q a).wf = true
  | [], xs, h, i, hi => by cases hi
  | j :: L, xs, h, i, hi => by
    rw [List.mapM_cons] at h
    simp only [bind, Option.bind_eq_some_iff, pure, Option.some.injEq] at h
    obtain ⟨y, hy, ys, hys, rfl⟩ := h
    rcases List.mem_cons.1 hi with rfl | hi
    · obtain ⟨a, ea, _, wa⟩ := DataW.trod_int he hy
      refine ⟨a, ?_, wa⟩
      have : ((cs.drop (i * 1)).take 1)[0]? = some (.int q a) := by rw [ea]; rfl
      rw [List.getElem?_take] at this
      simpa using this
    · exact mapM_words he L ys hys i hi
theorem open_words {H : Type} {enc : TypeId × Value → H} {P : Program} {k e : TypeId} {n : Nat} {q : IntKind} {W : World} {base : Nat} {sp : Nat → Bool} {held : Bool} (hu : P.underlying k = some (.array n e)) (hone : P.cellsOf e = 1) (hsize : P.cellsOf k = n)
    (he : P.underlying e = some (.int q)) {r : Reach} {b0 : Nat} {v : Value} (hv : Value.okWide P W r b0 k v) {d : DataW H} {ps : List MemPlace} (hd : DataW.Trod enc P W base sp held k v d ps) :
    ∃ f : Nat → Int, v = .agg ((List.range n).map (fun i => Value.int q (f i))).toArray ∧ ∀ i, i < n → (Lit.int q (f i)).wf = true := by
  obtain ⟨xs, rfl, hn⟩ : ∃ xs : Array Value, v = .agg xs ∧ xs.size = n := by
    simp only [Value.okWide, hu] at hv
    obtain ⟨cs, h1, h2, _⟩ := hv
    exact ⟨cs, h1, by rw [h2, hsize]⟩
  obtain ⟨fuel, hf⟩ := hd
  cases fuel with
  | zero => simp [DataW.trod] at hf
  | succ m =>
    rw [DataW.trod_step] at hf
    unfold DataW.trodStep at hf
    simp only [hu, Value.cells] at hf
    rw [if_pos (by rw [hsize]; simpa using hn)] at hf
    simp only [Option.map_eq_some_iff] at hf
    obtain ⟨ys, hy, _⟩ := hf
    rw [hone] at hy
    have hall := mapM_words he _ ys hy
    have h1 : ∀ i, i < n → ∃ a : Int, xs.toList[i]? = some (.int q a) ∧ (Lit.int q a).wf = true := fun i hi => hall i (by simpa using hi)
    refine ⟨fun i => if h : i < n then (h1 i h).choose else 0, ?_, fun i hi => by simp only [hi, dif_pos]; exact (h1 i hi).choose_spec.2⟩
    congr 1
    apply Array.toList_inj.1
    apply List.ext_getElem?
    intro i
    by_cases hi : i < n
    · rw [(h1 i hi).choose_spec.1]
      simp [List.getElem?_map, List.getElem?_range, hi]
    · rw [List.getElem?_eq_none (by simp; omega), List.getElem?_eq_none (by simp; omega)]
theorem trodAll_stays {H : Type} {enc : TypeId × Value → H} {P : Program} (hl : laidOutB P = true) {W W' : World} (hb : Below W.heap.size W W') :
    ∀ (ts : List TypeId) (vs : List Value) (ds : List (DataW H)) (ps : List MemPlace), (∀ t ∈ ts, P.readableRec t = true ∧ t < P.types.size) →
    DataW.TrodAll enc P W 0 (fun _ => true) true ts vs ds ps → (∀ x ∈ ps, x.block < W.heap.size) → DataW.TrodAll enc P W' 0 (fun b => decide (b < W.heap.size)) true ts vs ds ps := by
  intro ts
  induction ts with
  | nil =>
    intro vs ds ps _ h _
    obtain ⟨rfl, rfl, rfl⟩ := trodAll_nil h
    exact trodAll_mk0
  | cons t ts ih =>
    intro vs ds ps hr h hlt
    obtain ⟨v0, vs0, d0, ds0, p0, q0, rfl, rfl, rfl, h0, r0⟩ := trodAll_cons h
    have h1 := hr t (by simp)
    exact trodAll_cons_mk (Below.trod hl h1.1 h1.2 h0 hb (fun x hx => hlt x (by simp [hx]))) (ih _ _ _ (fun t' ht' => hr t' (by simp [ht'])) r0 (fun x hx => hlt x (by simp [hx])))

theorem law_post {H : Type} {enc : TypeId × Value → H} {P : Program} {f : Func} {s : ChangeSpec} {W W' : World} {args : Array Value} {ds gs : List (DataW H)} {before : List MemPlace} {tb : TypeId}
    (hl : laidOutB P = true) (hr : ∀ t ∈ f.params.toList, P.readableRec t = true ∧ t < P.types.size) (hvars : s.vars = []) (hres : f.resultTypes = #[tb]) (htb : P.underlying tb = some .bool)
    (hW : DataW.Whole enc P f.params.toList s.vars false W args.toList ds gs before) (hb : Below W.heap.size W W')
    (hfn : s.fn H (ds ++ gs) = { results := [.lit (.bool true)], args := ds }) :
    s.post enc P f false true false false W args (.bool true) W' := by
  have hW0 := hW
  obtain ⟨p, q, hA, hV, hpq, hfz, hnd⟩ := hW
  refine ⟨ds, gs, before, [], p, [], hW0, ?_, ?_, ?_, hb.frame _, fun h => by cases h⟩
  · rw [hfn, hres]
    exact trodAll_cons_mk (shut_bool htb true) trodAll_mk0
  · rw [hfn]
    refine trodAll_stays hl hb _ _ _ _ hr hA (fun x hx => ?_)
    exact hW0.lt x (by rw [hpq]; simp [hx])
  · rw [hvars, hfn]
    rfl
theorem calls_any (W : World) (f g : Nat → Int) (a : Int) (hf : ∀ i, i < 16 → 0 ≤ f i ∧ f i ≤ 18446744073709551615) (hg : ∀ i, i < 16 → 0 ≤ g i ∧ g i ≤ 18446744073709551615) (ha : -9223372036854775808 ≤ a ∧ a ≤ 9223372036854775807) :
    Calls Tryz.prog 5 #[.agg ((List.range 16).map (fun i => Value.int .u64 (f i))).toArray, .agg ((List.range 16).map (fun i => Value.int .u64 (g i))).toArray, .int .i64 a] W fun e w' => e = .returned (.bool true) ∧ Below W.heap.size W w' := by
  obtain ⟨E, hE⟩ : ∃ E : Env, E = ⟨fun i => if i < 16 then f i else if i < 32 then g (i - 16) else a, fun _ => false⟩ := ⟨_, rfl⟩
  have hb : BdM E := ⟨fun i hi => by
    rw [hE]
    show 0 ≤ (if i < 16 then f i else if i < 32 then g (i - 16) else a) ∧ (if i < 16 then f i else if i < 32 then g (i - 16) else a) ≤ _
    by_cases h : i < 16
    · rw [if_pos h]; exact hf i h
    · rw [if_neg h, if_pos hi]; exact hg (i - 16) (by omega)⟩
  have h32 : E.i 32 = a := by rw [hE]; rfl
  have := calls_E E W hb (by rw [h32]; exact ha)
  have hargs : (γL E (fun _ => ⟨0, 0⟩) argsN).toArray = #[.agg ((List.range 16).map (fun i => Value.int .u64 (f i))).toArray, .agg ((List.range 16).map (fun i => Value.int .u64 (g i))).toArray, .int .i64 a] := by
    rw [hE]
    rfl
  rw [hargs] at this
  exact this
theorem own : ownKnob Tryz.prog.godebug = none := by kernel_rfl
theorem laidOut : laidOutB Tryz.prog = true := by kernel_rfl
set_option maxRecDepth 100000 in
theorem contract (H : Type) (enc : TypeId × Value → H) (W : World) (base : Nat) (args : Array Value) (ds gs : List (DataW H)) (before : List MemPlace)
    (hval0 : ∀ (j : Nat) t v, Tryz.f5.params[j]? = some t → args[j]? = some v → Value.okWide Tryz.prog W .any base t v)
    (hW : DataW.Whole enc Tryz.prog Tryz.f5.params.toList Rows.ipcCallsSpec.vars false W args.toList ds gs before) :
    Calls Tryz.prog 5 args W fun e W' => ∃ v, e = .returned v ∧ Rows.ipcCallsSpec.post enc Tryz.prog Tryz.f5 false true false false W args v W' := by
  have hval := hval0
  have hW' := hW
  obtain ⟨p, q, hA0, hV, rfl, hfz, hnd⟩ := hW
  have hA : DataW.TrodAll enc Tryz.prog W 0 (fun _ => true) true Tryz.f5.params.toList args.toList ds p := hA0
  rw [Tryz.params5] at hA hval
  obtain ⟨v0, vs0, d0, ds0, p0, q0, hargs, rfl, rfl, h0, r0⟩ := trodAll_cons hA
  obtain ⟨v1, vs1, d1, ds1, p1, q1, rfl, rfl, rfl, h1, r1⟩ := trodAll_cons r0
  obtain ⟨v2, vs2, d2, ds2, p2, q2, rfl, rfl, rfl, h2, r2⟩ := trodAll_cons r1
  obtain ⟨rfl, rfl, rfl⟩ := trodAll_nil r2
  obtain rfl : args = #[v0, v1, v2] := by cases args; simp_all
  obtain ⟨f, rfl, wf⟩ := open_words Tryz.underlying28 (by kernel_rfl) (by kernel_rfl) Tryz.underlying22 (hval 0 28 v0 rfl rfl) h0
  obtain ⟨g, rfl, wg⟩ := open_words Tryz.underlying28 (by kernel_rfl) (by kernel_rfl) Tryz.underlying22 (hval 1 28 v1 rfl rfl) h1
  obtain ⟨a, rfl, rfl, rfl, wa⟩ := open_int Tryz.underlying3 (hval 2 3 v2 rfl rfl) h2
  have ba : -9223372036854775808 ≤ a ∧ a ≤ 9223372036854775807 := by simp [Lit.wf, IntKind.min, IntKind.max, IntKind.signed, IntKind.bits] at wa; omega
  have bf : ∀ i, i < 16 → 0 ≤ f i ∧ f i ≤ 18446744073709551615 := fun i hi => by have := wf i hi; simp [Lit.wf, IntKind.min, IntKind.max, IntKind.signed, IntKind.bits] at this; omega
  have bg : ∀ i, i < 16 → 0 ≤ g i ∧ g i ≤ 18446744073709551615 := fun i hi => by have := wg i hi; simp [Lit.wf, IntKind.min, IntKind.max, IntKind.signed, IntKind.bits] at this; omega
  obtain ⟨rfl, rfl⟩ := trodVars_none hV
  refine (calls_any W f g a bf bg ba).mono fun e W' ⟨he, hk⟩ => ?_
  subst he
  refine ⟨_, rfl, law_post laidOut ?_ rfl rfl Tryz.underlying4 hW' hk rfl⟩
  rw [Tryz.params5]
  intro t ht
  simp only [List.mem_cons, List.not_mem_nil, or_false] at ht
  rcases ht with rfl | rfl | rfl
  all_goals exact ⟨by kernel_rfl, of_decide_eq_true (by kernel_rfl)⟩
set_option maxRecDepth 100000 in
theorem lifted (os : Os) (started : os.Started) (H : Type) (enc : TypeId × Value → H) :
    ReturnsInHanded {} Tryz.checked os 5 .any (Rows.ipcCallsSpec.pre6 enc Tryz.prog Tryz.f5 Rows.ipcCallsRow.domain false) (Rows.ipcCallsSpec.post enc Tryz.prog Tryz.f5 false true false false) := by
  refine returnsInHanded_of_change (C := Tryz.checked) own started (by kernel_rfl) Tryz.func5
    (ChangeSpec.witness6 (enc := enc) (C := Tryz.checked) false ⟨#[], #[.agg (Array.replicate 16 (.int .u64 0)), .agg (Array.replicate 16 (.int .u64 0)), .int .i64 0], []⟩ 8 (by kernel_rfl) (by kernel_rfl) (by kernel_rfl) (by kernel_rfl)) ?_
  intro W base args ds gs before hval0 hW hcnd _
  exact contract H enc W base args ds gs before hval0 hW
theorem said : Rows.IpcCallsSaid :=
  OpenClaim.holds_of_wide 5 Tryz.f5 rfl rfl rfl rfl rfl rfl rfl ⟨rfl, rfl, rfl, rfl, rfl⟩ rfl rfl rfl rfl rfl (by kernel_rfl) Tryz.func5 (by kernel_rfl)
    (of_decide_eq_true (by kernel_rfl)) (by unfold Func.isWrapper; first | (rw [if_pos (by decide +kernel)]; kernel_rfl) | (rw [if_neg (by decide +kernel)]; exact ⟨rfl, rfl⟩))
    (fun os started H enc _ => lifted os started H enc)
#print axioms said
end Go.Proofs.YtapeacnagpphjaaGreat
end
