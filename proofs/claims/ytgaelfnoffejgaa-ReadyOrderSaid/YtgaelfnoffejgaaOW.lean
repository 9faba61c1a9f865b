/-
 PROVED: citadellaw13.ReadyOrder returns true at every input; its arguments read as before. Condition: none.
-/
import Derived.Test.YtgaelfnoffejgaaRows
import Derived.Test.YtgaelfnoffejgaaWN
import Derived.Deep.Slices
import Derived.ChangeArms
import Derived.ProofKit
import Derived.OpenShut
import Derived.Deep.DeepHandedRow
set_option linter.unusedSimpArgs false
set_option linter.unusedVariables false
noncomputable section
namespace Go.Proofs.Ytgaelfnoffejgaa
open Go Go.Ev Go.Ev.X Go.ChangeShapes Go.WideShapes Go.ChangeAt Go.RowKit
theorem trodAll_stays {H : Type} {enc : TypeId × Value → H} {P : Program} (hl : laidOutB P = true) {W W' : World} (hb : Below W.heap.size W W') :
  ∀ (ts : List TypeId) (vs : List Value) (ds : List (DataW H)) (ps : List MemPlace), (∀ t ∈ ts, P.readableRec t = true ∧ t < P.types.size) →
  DataW.TrodAll enc P W 0 (fun _ => true) true ts vs ds ps → (∀ x ∈ ps, x.block < W.heap.size) → DataW.TrodAll enc P W' 0 (fun b => decide (b < W.heap.size)) true ts vs ds ps := by
 intro ts
 induction ts with
 | nil =>
  intro vs ds ps _ h _
  obtain ⟨rfl, rfl, rfl⟩ := trodAll_nil h
  exact trodAll_mk0
 | cons t ts ih =>
  intro vs ds ps hr h hlt
  obtain ⟨v0, vs0, d0, ds0, p0, q0, rfl, rfl, rfl, h0, r0⟩ := trodAll_cons h
  have h1 := hr t (by simp)
  exact trodAll_cons_mk (Below.trod hl h1.1 h1.2 h0 hb (fun x hx => hlt x (by simp [hx]))) (ih _ _ _ (fun t' ht' => hr t' (by simp [ht'])) r0 (fun x hx => hlt x (by simp [hx])))
theorem law_post {H : Type} {enc : TypeId × Value → H} {P : Program} {f : Func} {s : ChangeSpec} {W W' : World} {args : Array Value} {ds gs : List (DataW H)} {before : List MemPlace} {tb : TypeId}
  (hl : laidOutB P = true) (hr : ∀ t ∈ f.params.toList, P.readableRec t = true ∧ t < P.types.size) (hvars : s.vars = []) (hres : f.resultTypes = #[tb]) (htb : P.underlying tb = some .bool)
  (hW : DataW.Whole enc P f.params.toList s.vars false W args.toList ds gs before) (hb : Below W.heap.size W W')
  (hfn : s.fn H (ds ++ gs) = { results := [.lit (.bool true)], args := ds }) :
  s.post enc P f false true false false W args (.bool true) W' := by
 have hW0 := hW
 obtain ⟨p, q, hA, hV, hpq, hfz, hnd⟩ := hW
 refine ⟨ds, gs, before, [], p, [], hW0, ?_, ?_, ?_, hb.frame _, fun h => by cases h⟩
 ·rw [hfn, hres]
  exact trodAll_cons_mk (shut_bool htb true) trodAll_mk0
 ·rw [hfn]
  refine trodAll_stays hl hb _ _ _ _ hr hA (fun x hx => ?_)
  exact hW0.lt x (by rw [hpq]; simp [hx])
 ·rw [hvars, hfn]
  rfl
theorem cells_of_has {P : Program} {w : World} {r : Reach} {base : Nat} {a : Addr} {e : TypeId} {n : Nat} (h : w.has P r base a e n) : ∃ b off cs t fz, a = ⟨b, off, none⟩ ∧ w.heap[b]? = some (.cells cs t fz) := by
 obtain ⟨_, h2, row, cells, h3, _⟩ := h
 obtain ⟨b, off, sp⟩ := a
 have h2 : sp = none := h2
 subst h2
 unfold World.shape? at h3
 split at h3
 ·rename_i c el fr hh
  exact ⟨b, off, c, el, fr, rfl, hh⟩
 ·cases h3
theorem own : ownKnob Try.prog.godebug = none := by kernel_rfl
theorem laidOut : laidOutB Try.prog = true := by kernel_rfl
theorem i64_of {n : Int} (h : (Lit.int .i64 n).wf = true) : I64 n := by
 unfold I64
 simp [Lit.wf, IntKind.min, IntKind.max, IntKind.signed, IntKind.bits] at h; omega
set_option maxRecDepth 100000 in
/-- a list of numbers that came in, or none -/
theorem open_list {H : Type} {enc : TypeId × Value → H} {W : World} {base : Nat} {spare : Nat → Bool} {held : Bool} {fuel : Nat} {v : Value} {x : DataW H × List MemPlace} (hv : Value.okWide Try.prog W .any base 22 v) (hf : DataW.trod enc Try.prog W 0 spare held fuel 22 v.cells.toList = some x) :
  ∃ (b : Bool) (r : Row) (D : Nat → Int), v = v0 b r ∧ (b = false → RowI r D ∧ W.heap[r.b]? = some (.cells r.cs r.t r.fz)) := by
 obtain ⟨a0, len0, cap0, rfl⟩ := okWide_slice Try.underlying22 hv
 have hc1 : Try.prog.cellsOf 3 = 1 := by kernel_rfl
 rcases open_ints Try.underlying22 Try.underlying3 hc1 hf with ⟨he, _⟩ | ⟨ad, len, cap, zs, he, _, hlc, _, hzl, _, hcell, hwf⟩
 ·simp only [Value.cells] at he
  injection he with he _
  injection he with e1 e2 e3
  subst e1; subst e2; subst e3
  exact ⟨true, ⟨0, 0, 0, 0, 0, 0, 0, #[], (0, 0)⟩, fun _ => 0, rfl, fun h => by cases h⟩
 ·simp only [Value.cells] at he
  injection he with he _
  injection he with e1 e2 e3
  subst e1; subst e2; subst e3
  have hh : W.has Try.prog .any base ad 3 cap0 := by
   unfold Value.okWide at hv
   rw [Try.underlying22] at hv
   simp only [Cell.okWide] at hv
   rw [Try.underlying22] at hv
   simp only [Cell.ok] at hv
   rw [Try.underlying22] at hv
   exact hv.2.2
  obtain ⟨b, off, cs, t, fz, rfl, hb⟩ := cells_of_has hh
  refine ⟨false, ⟨b, off, len0, cap0, 1, 0, t, cs, fz⟩, fun i => zs.getD i 0, rfl, fun _ => ⟨⟨rfl, fun i hi => ?_⟩, hb⟩⟩
  have hi : i < len0 := hi
  have hil : i < zs.length := by rw [hzl]; split <;> omega
  have := hcell i hil
  rw [addr_add] at this
  refine ⟨by simpa [World.cell?, hb] using this, i64_of (hwf _ ?_)⟩
  rw [List.getD_eq_getElem?_getD, List.getElem?_eq_getElem hil]
  exact List.getElem_mem _
set_option maxRecDepth 100000 in
theorem contract (H : Type) (enc : TypeId × Value → H) (W : World) (base : Nat) (args : Array Value) (ds gs : List (DataW H)) (before : List MemPlace)
  (hval0 : ∀ (j : Nat) t v, Try.f3.params[j]? = some t → args[j]? = some v → Value.okWide Try.prog W .any base t v)
  (hW : DataW.Whole enc Try.prog Try.f3.params.toList Rows.readyOrderSpec.vars false W args.toList ds gs before) :
  Calls Try.prog 3 args W fun e W' => ∃ v, e = .returned v ∧ Rows.readyOrderSpec.post enc Try.prog Try.f3 false true false false W args v W' := by
 have hval := hval0
 have hW' := hW
 obtain ⟨p, q, hA0, hV, rfl, hfz, hnd⟩ := hW
 have hA : DataW.TrodAll enc Try.prog W 0 (fun _ => true) true Try.f3.params.toList args.toList ds p := hA0
 rw [Try.params3] at hA hval
 obtain ⟨v0, vs0, d0, ds0, p0, q0, hargs, rfl, rfl, h0, r0⟩ := trodAll_cons hA
 obtain ⟨v1, vs1, d1, ds1, p1, q1, rfl, rfl, rfl, h1, r1⟩ := trodAll_cons r0
 obtain ⟨rfl, rfl, rfl⟩ := trodAll_nil r1
 obtain rfl : args = #[v0, v1] := by cases args; simp_all
 obtain ⟨rfl, rfl⟩ := trodVars_none hV
 have hrun : Calls Try.prog 3 #[v0, v1] W fun e w' => e = .returned (.bool true) ∧ Below W.heap.size W w' := by
  obtain ⟨f0, hf0⟩ := h0
  obtain ⟨f1, hf1⟩ := h1
  obtain ⟨b0, s0, D0, rfl, g0⟩ := open_list (hval 0 22 _ rfl rfl) hf0
  obtain ⟨b1, s1, D1, rfl, g1⟩ := open_list (hval 1 22 _ rfl rfl) hf1
  cases b1 with
  | true => exact order_any (b := b0) (z := 0) (r0 := s0) (r1 := s1) (D0 := D0) (D1 := D1) (.inl rfl) (fun h => (g0 h).1) (fun h => by cases h) (fun h => (g0 h).2) (fun h => by cases h)
  | false => exact order_any (b := b0) (z := 1) (r0 := s0) (r1 := s1) (D0 := D0) (D1 := D1) (.inr rfl) (fun h => (g0 h).1) (fun _ => (g1 rfl).1) (fun h => (g0 h).2) (fun _ => (g1 rfl).2)
 refine hrun.mono fun e W' ⟨he, hk⟩ => ?_
 subst he
 refine ⟨_, rfl, law_post laidOut ?_ rfl rfl Try.underlying4 hW' hk rfl⟩
 rw [Try.params3]
 intro t ht
 simp only [List.mem_cons, List.not_mem_nil, or_false] at ht
 rcases ht with rfl | rfl
 all_goals exact ⟨by kernel_rfl, of_decide_eq_true (by kernel_rfl)⟩
set_option maxRecDepth 100000 in
theorem lifted (os : Os) (started : os.Started) (H : Type) (enc : TypeId × Value → H) :
  ReturnsInHanded {} Try.checked os 3 .any (Rows.readyOrderSpec.pre6 enc Try.prog Try.f3 Rows.readyOrderRow.domain false) (Rows.readyOrderSpec.post enc Try.prog Try.f3 false true false false) := by
 refine returnsInHanded_of_change (C := Try.checked) own started (by kernel_rfl) Try.func3
  (ChangeSpec.witness6 (enc := enc) (C := Try.checked) false ⟨#[], #[.slice none 0 0, .slice none 0 0], []⟩ 8 (by kernel_rfl) (by kernel_rfl) (by kernel_rfl) (by kernel_rfl)) ?_
 intro W base args ds gs before hval0 hW hcnd _
 exact contract H enc W base args ds gs before hval0 hW
set_option maxRecDepth 1000000 in
theorem said : Rows.ReadyOrderSaid :=
 OpenClaim.holds_of_wide 3 Try.f3 rfl rfl rfl rfl rfl rfl rfl ⟨rfl, rfl, rfl, rfl, rfl⟩ rfl rfl rfl rfl rfl (by kernel_rfl) Try.func3 (by kernel_rfl)
  (of_decide_eq_true (by kernel_rfl)) (by unfold Func.isWrapper; first | (rw [if_pos (by decide +kernel)]; kernel_rfl) | (rw [if_neg (by decide +kernel)]; exact ⟨rfl, rfl⟩))
  (fun os started H enc _ => lifted os started H enc)
#print axioms said
end Go.Proofs.Ytgaelfnoffejgaa
end
