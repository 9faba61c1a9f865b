/-
 PROVED: citadellaw13.ReadyBack returns true at every input; its arguments read as before. Condition: none.
-/
import Derived.Test.YtgaelfnoffejgaaRows
import Derived.Test.YtgaelfnoffejgaaRB
import Derived.Deep.Slices
import Derived.ChangeArms
import Derived.ProofKit
import Derived.OpenShut
import Derived.Deep.DeepHandedRow
set_option linter.unusedSimpArgs false
set_option linter.unusedVariables false
noncomputable section
namespace Go.Proofs.Ytgaelfnoffejgaa
open Go Go.Ev Go.Ev.X Go.ChangeShapes Go.WideShapes Go.ChangeAt Go.RowKit
theorem trodAll_stays {H : Type} {enc : TypeId × Value → H} {P : Program} (hl : laidOutB P = true) {W W' : World} (hb : Below W.heap.size W W') :
  ∀ (ts : List TypeId) (vs : List Value) (ds : List (DataW H)) (ps : List MemPlace), (∀ t ∈ ts, P.readableRec t = true ∧ t < P.types.size) →
  DataW.TrodAll enc P W 0 (fun _ => true) true ts vs ds ps → (∀ x ∈ ps, x.block < W.heap.size) → DataW.TrodAll enc P W' 0 (fun b => decide (b < W.heap.size)) true ts vs ds ps := by
 intro ts
 induction ts with
 | nil =>
  intro vs ds ps _ h _
  obtain ⟨rfl, rfl, rfl⟩ := trodAll_nil h
  exact trodAll_mk0
 | cons t ts ih =>
  intro vs ds ps hr h hlt
  obtain ⟨v0, vs0, d0, ds0, p0, q0, rfl, rfl, rfl, h0, r0⟩ := trodAll_cons h
  have h1 := hr t (by simp)
  exact trodAll_cons_mk (Below.trod hl h1.1 h1.2 h0 hb (fun x hx => hlt x (by simp [hx]))) (ih _ _ _ (fun t' ht' => hr t' (by simp [ht'])) r0 (fun x hx => hlt x (by simp [hx])))
theorem law_post {H : Type} {enc : TypeId × Value → H} {P : Program} {f : Func} {s : ChangeSpec} {W W' : World} {args : Array Value} {ds gs : List (DataW H)} {before : List MemPlace} {tb : TypeId}
  (hl : laidOutB P = true) (hr : ∀ t ∈ f.params.toList, P.readableRec t = true ∧ t < P.types.size) (hvars : s.vars = []) (hres : f.resultTypes = #[tb]) (htb : P.underlying tb = some .bool)
  (hW : DataW.Whole enc P f.params.toList s.vars false W args.toList ds gs before) (hb : Below W.heap.size W W')
  (hfn : s.fn H (ds ++ gs) = { results := [.lit (.bool true)], args := ds }) :
  s.post enc P f false true false false W args (.bool true) W' := by
 have hW0 := hW
 obtain ⟨p, q, hA, hV, hpq, hfz, hnd⟩ := hW
 refine ⟨ds, gs, before, [], p, [], hW0, ?_, ?_, ?_, hb.frame _, fun h => by cases h⟩
 ·rw [hfn, hres]
  exact trodAll_cons_mk (shut_bool htb true) trodAll_mk0
 ·rw [hfn]
  refine trodAll_stays hl hb _ _ _ _ hr hA (fun x hx => ?_)
  exact hW0.lt x (by rw [hpq]; simp [hx])
 ·rw [hvars, hfn]
  rfl
theorem cells_of_has {P : Program} {w : World} {r : Reach} {base : Nat} {a : Addr} {e : TypeId} {n : Nat} (h : w.has P r base a e n) : ∃ b off cs t fz, a = ⟨b, off, none⟩ ∧ w.heap[b]? = some (.cells cs t fz) := by
 obtain ⟨_, h2, row, cells, h3, _⟩ := h
 obtain ⟨b, off, sp⟩ := a
 have h2 : sp = none := h2
 subst h2
 unfold World.shape? at h3
 split at h3
 ·rename_i c el fr hh
  exact ⟨b, off, c, el, fr, rfl, hh⟩
 ·cases h3
theorem own : ownKnob Try.prog.godebug = none := by kernel_rfl
theorem laidOut : laidOutB Try.prog = true := by kernel_rfl
theorem i64_of {n : Int} (h : (Lit.int .i64 n).wf = true) : I64 n := by
 unfold I64
 simp [Lit.wf, IntKind.min, IntKind.max, IntKind.signed, IntKind.bits] at h; omega
set_option maxRecDepth 100000 in
/-- a list of numbers that came in, or none -/
theorem open_list {H : Type} {enc : TypeId × Value → H} {W : World} {base : Nat} {spare : Nat → Bool} {held : Bool} {fuel : Nat} {v : Value} {x : DataW H × List MemPlace} (hv : Value.okWide Try.prog W .any base 22 v) (hf : DataW.trod enc Try.prog W 0 spare held fuel 22 v.cells.toList = some x) :
  ∃ (b : Bool) (r : Row) (D : Nat → Int), v = v0 b r ∧ (b = false → RowI r D ∧ W.heap[r.b]? = some (.cells r.cs r.t r.fz)) := by
 obtain ⟨a0, len0, cap0, rfl⟩ := okWide_slice Try.underlying22 hv
 have hc1 : Try.prog.cellsOf 3 = 1 := by kernel_rfl
 rcases open_ints Try.underlying22 Try.underlying3 hc1 hf with ⟨he, _⟩ | ⟨ad, len, cap, zs, he, _, hlc, _, hzl, _, hcell, hwf⟩
 ·simp only [Value.cells] at he
  injection he with he _
  injection he with e1 e2 e3
  subst e1; subst e2; subst e3
  exact ⟨true, ⟨0, 0, 0, 0, 0, 0, 0, #[], (0, 0)⟩, fun _ => 0, rfl, fun h => by cases h⟩
 ·simp only [Value.cells] at he
  injection he with he _
  injection he with e1 e2 e3
  subst e1; subst e2; subst e3
  have hh : W.has Try.prog .any base ad 3 cap0 := by
   unfold Value.okWide at hv
   rw [Try.underlying22] at hv
   simp only [Cell.okWide] at hv
   rw [Try.underlying22] at hv
   simp only [Cell.ok] at hv
   rw [Try.underlying22] at hv
   exact hv.2.2
  obtain ⟨b, off, cs, t, fz, rfl, hb⟩ := cells_of_has hh
  refine ⟨false, ⟨b, off, len0, cap0, 1, 0, t, cs, fz⟩, fun i => zs.getD i 0, rfl, fun _ => ⟨⟨rfl, fun i hi => ?_⟩, hb⟩⟩
  have hi : i < len0 := hi
  have hil : i < zs.length := by rw [hzl]; split <;> omega
  have := hcell i hil
  rw [addr_add] at this
  refine ⟨by simpa [World.cell?, hb] using this, i64_of (hwf _ ?_)⟩
  rw [List.getD_eq_getElem?_getD, List.getElem?_eq_getElem hil]
  exact List.getElem_mem _
set_option maxRecDepth 100000 in
theorem open_back {H : Type} {enc : TypeId × Value → H} {W : World} {base : Nat} {spare : Nat → Bool} {held : Bool} {v : Value} {d : DataW H} {ps : List MemPlace} (hv : Value.okWide Try.prog W .any base 51 v) (hf : DataW.Trod enc Try.prog W 0 spare held 51 v d ps) :
  ∃ (b0 : Bool) (r0 : Row) (D0 : Nat → Int) (b1 : Bool) (r1 : Row) (D1 : Nat → Int) (a : Int) (fr : Bool), v = .agg #[v0 b0 r0, v0 b1 r1, .int .i64 a, .bool fr] ∧ (b0 = false → RowI r0 D0 ∧ W.heap[r0.b]? = some (.cells r0.cs r0.t r0.fz)) ∧ (b1 = false → RowI r1 D1 ∧ W.heap[r1.b]? = some (.cells r1.cs r1.t r1.fz)) ∧ I64 a := by
 have c51 : Try.prog.cellsOf 51 = 4 := by kernel_rfl
 have c22 : Try.prog.cellsOf 22 = 1 := by kernel_rfl
 have c3 : Try.prog.cellsOf 3 = 1 := by kernel_rfl
 have c4 : Try.prog.cellsOf 4 = 1 := by kernel_rfl
 have t51 : Try.prog.cellTypes Try.prog.depth 51 = some [22, 22, 3, 4] := by kernel_rfl
 unfold Value.okWide at hv
 rw [Try.underlying51] at hv
 obtain ⟨cs, rfl, hsz, ts, hts, _, hall⟩ := hv
 rw [t51] at hts
 obtain rfl := Option.some.inj hts
 rw [c51] at hsz
 obtain ⟨fuel, hf⟩ := hf
 obtain ⟨c0, c1, c2, c3', rfl⟩ : ∃ c0 c1 c2 c3, cs = #[c0, c1, c2, c3] := by
  match cs, hsz with
  | ⟨[c0, c1, c2, c3]⟩, _ => exact ⟨c0, c1, c2, c3, rfl⟩
 obtain ⟨xs, k, hk, hxy, _, hxl, hff⟩ := DataW.trod_struct Try.underlying51 hf
 match xs, hxl with
 | [y0, y1, y2, y3], _ =>
  have h0 := hff 0 _ rfl
  have h1 := hff 1 _ rfl
  have h2 := hff 2 _ rfl
  have h3 := hff 3 _ rfl
  simp [Value.cells, c22, c3, c4] at h0 h1 h2 h3
  have cell : ∀ i u v, #[c0, c1, c2, c3'][i]? = some v → ([22, 22, 3, 4] : List TypeId)[i % 4]? = some u → Cell.okWide Try.prog W .any base u v := fun i u v h1 h2 => by
   obtain ⟨u', g1, g2⟩ := hall i v h1
   have g1 : ([22, 22, 3, 4] : List TypeId)[i % 4]? = some u' := g1
   rw [h2] at g1
   obtain rfl := Option.some.inj g1
   exact g2
  have list : ∀ c, Cell.okWide Try.prog W .any base 22 c → Value.okWide Try.prog W .any base 22 c := fun c h => by
   unfold Value.okWide
   rw [Try.underlying22]; exact h
  have v0' := list _ (cell 0 22 c0 rfl rfl)
  have v1' := list _ (cell 1 22 c1 rfl rfl)
  have op : ∀ c y, Value.okWide Try.prog W .any base 22 c → DataW.trod enc Try.prog W 0 spare held k 22 [c] = some y → ∃ (b : Bool) (r : Row) (D : Nat → Int), c = v0 b r ∧ (b = false → RowI r D ∧ W.heap[r.b]? = some (.cells r.cs r.t r.fz)) := fun c y hc h => by
   obtain ⟨x1, x2, x3, rfl⟩ := okWide_slice Try.underlying22 hc
   exact open_list hc (show DataW.trod enc Try.prog W 0 spare held k 22 (Value.slice x1 x2 x3).cells.toList = some y from h)
  obtain ⟨b0, r0, D0, rfl, g0⟩ := op c0 y0 v0' h0
  obtain ⟨b1, r1, D1, rfl, g1⟩ := op c1 y1 v1' h1
  obtain ⟨n, e2, _, w2⟩ := DataW.trod_int Try.underlying3 h2
  obtain ⟨fr, e3, _⟩ := DataW.trod_bool Try.underlying4 h3
  injection e2 with e2 _
  injection e3 with e3 _
  subst e2; subst e3
  exact ⟨b0, r0, D0, b1, r1, D1, n, fr, rfl, g0, g1, i64_of w2⟩
set_option maxRecDepth 100000 in
theorem contract (H : Type) (enc : TypeId × Value → H) (W : World) (base : Nat) (args : Array Value) (ds gs : List (DataW H)) (before : List MemPlace)
  (hval0 : ∀ (j : Nat) t v, Try.f5.params[j]? = some t → args[j]? = some v → Value.okWide Try.prog W .any base t v)
  (hW : DataW.Whole enc Try.prog Try.f5.params.toList Rows.readyBackSpec.vars false W args.toList ds gs before) :
  Calls Try.prog 5 args W fun e W' => ∃ v, e = .returned v ∧ Rows.readyBackSpec.post enc Try.prog Try.f5 false true false false W args v W' := by
 have hval := hval0
 have hW' := hW
 obtain ⟨p, q, hA0, hV, rfl, hfz, hnd⟩ := hW
 have hA : DataW.TrodAll enc Try.prog W 0 (fun _ => true) true Try.f5.params.toList args.toList ds p := hA0
 rw [Try.params5] at hA hval
 obtain ⟨v0, vs0, d0, ds0, p0, q0, hargs, rfl, rfl, h0, r0⟩ := trodAll_cons hA
 obtain ⟨rfl, rfl, rfl⟩ := trodAll_nil r0
 obtain rfl : args = #[v0] := by cases args; simp_all
 obtain ⟨rfl, rfl⟩ := trodVars_none hV
 have hrun : Calls Try.prog 5 #[v0] W fun e w' => e = .returned (.bool true) ∧ Below W.heap.size W w' := by
  obtain ⟨b0, s0, D0, b1, s1, D1, a, fr, rfl, g0, g1, ha⟩ := open_back (hval 0 51 _ rfl rfl) h0
  cases b1 with
  | true => exact back_any (b := b0) (fr := fr) (z := 0) (r0 := s0) (r1 := s1) (D0 := D0) (D1 := D1) (.inl rfl) (fun h => (g0 h).1) (fun h => by cases h) ha (fun h => (g0 h).2) (fun h => by cases h)
  | false => exact back_any (b := b0) (fr := fr) (z := 1) (r0 := s0) (r1 := s1) (D0 := D0) (D1 := D1) (.inr rfl) (fun h => (g0 h).1) (fun _ => (g1 rfl).1) ha (fun h => (g0 h).2) (fun _ => (g1 rfl).2)
 refine hrun.mono fun e W' ⟨he, hk⟩ => ?_
 subst he
 refine ⟨_, rfl, law_post laidOut ?_ rfl rfl Try.underlying4 hW' hk rfl⟩
 rw [Try.params5]
 intro t ht
 simp only [List.mem_cons, List.not_mem_nil, or_false] at ht
 rcases ht with rfl
 all_goals exact ⟨by kernel_rfl, of_decide_eq_true (by kernel_rfl)⟩
set_option maxRecDepth 100000 in
theorem lifted (os : Os) (started : os.Started) (H : Type) (enc : TypeId × Value → H) :
  ReturnsInHanded {} Try.checked os 5 .any (Rows.readyBackSpec.pre6 enc Try.prog Try.f5 Rows.readyBackRow.domain false) (Rows.readyBackSpec.post enc Try.prog Try.f5 false true false false) := by
 refine returnsInHanded_of_change (C := Try.checked) own started (by kernel_rfl) Try.func5
  (ChangeSpec.witness6 (enc := enc) (C := Try.checked) false ⟨#[], #[.agg #[.slice none 0 0, .slice none 0 0, .int .i64 0, .bool false]], []⟩ 8 (by kernel_rfl) (by kernel_rfl) (by kernel_rfl) (by kernel_rfl)) ?_
 intro W base args ds gs before hval0 hW hcnd _
 exact contract H enc W base args ds gs before hval0 hW
set_option maxRecDepth 1000000 in
theorem said : Rows.ReadyBackSaid :=
 OpenClaim.holds_of_wide 5 Try.f5 rfl rfl rfl rfl rfl rfl rfl ⟨rfl, rfl, rfl, rfl, rfl⟩ rfl rfl rfl rfl rfl (by kernel_rfl) Try.func5 (by kernel_rfl)
  (of_decide_eq_true (by kernel_rfl)) (by unfold Func.isWrapper; first | (rw [if_pos (by decide +kernel)]; kernel_rfl) | (rw [if_neg (by decide +kernel)]; exact ⟨rfl, rfl⟩))
  (fun os started H enc _ => lifted os started H enc)
#print axioms said
end Go.Proofs.Ytgaelfnoffejgaa
end
