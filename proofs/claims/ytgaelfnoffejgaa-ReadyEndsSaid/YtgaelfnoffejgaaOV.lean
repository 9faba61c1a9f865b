/-
 PROVED: citadellaw13.ReadyEnds returns true at every input; its arguments read as before. Condition: none.
-/
import Derived.Test.YtgaelfnoffejgaaRows
import Derived.Test.YtgaelfnoffejgaaVL
import Derived.Deep.Slices
import Derived.ChangeArms
import Derived.ProofKit
import Derived.OpenShut
import Derived.Deep.DeepHandedRow
set_option linter.unusedSimpArgs false
set_option linter.unusedVariables false
noncomputable section
namespace Go.Proofs.Ytgaelfnoffejgaa
open Go Go.Ev Go.Ev.X Go.ChangeShapes Go.WideShapes Go.ChangeAt Go.RowKit
theorem trodAll_stays {H : Type} {enc : TypeId × Value → H} {P : Program} (hl : laidOutB P = true) {W W' : World} (hb : Below W.heap.size W W') :
  ∀ (ts : List TypeId) (vs : List Value) (ds : List (DataW H)) (ps : List MemPlace), (∀ t ∈ ts, P.readableRec t = true ∧ t < P.types.size) →
  DataW.TrodAll enc P W 0 (fun _ => true) true ts vs ds ps → (∀ x ∈ ps, x.block < W.heap.size) → DataW.TrodAll enc P W' 0 (fun b => decide (b < W.heap.size)) true ts vs ds ps := by
 intro ts
 induction ts with
 | nil =>
  intro vs ds ps _ h _
  obtain ⟨rfl, rfl, rfl⟩ := trodAll_nil h
  exact trodAll_mk0
 | cons t ts ih =>
  intro vs ds ps hr h hlt
  obtain ⟨v0, vs0, d0, ds0, p0, q0, rfl, rfl, rfl, h0, r0⟩ := trodAll_cons h
  have h1 := hr t (by simp)
  exact trodAll_cons_mk (Below.trod hl h1.1 h1.2 h0 hb (fun x hx => hlt x (by simp [hx]))) (ih _ _ _ (fun t' ht' => hr t' (by simp [ht'])) r0 (fun x hx => hlt x (by simp [hx])))
theorem law_post {H : Type} {enc : TypeId × Value → H} {P : Program} {f : Func} {s : ChangeSpec} {W W' : World} {args : Array Value} {ds gs : List (DataW H)} {before : List MemPlace} {tb : TypeId}
  (hl : laidOutB P = true) (hr : ∀ t ∈ f.params.toList, P.readableRec t = true ∧ t < P.types.size) (hvars : s.vars = []) (hres : f.resultTypes = #[tb]) (htb : P.underlying tb = some .bool)
  (hW : DataW.Whole enc P f.params.toList s.vars false W args.toList ds gs before) (hb : Below W.heap.size W W')
  (hfn : s.fn H (ds ++ gs) = { results := [.lit (.bool true)], args := ds }) :
  s.post enc P f false true false false W args (.bool true) W' := by
 have hW0 := hW
 obtain ⟨p, q, hA, hV, hpq, hfz, hnd⟩ := hW
 refine ⟨ds, gs, before, [], p, [], hW0, ?_, ?_, ?_, hb.frame _, fun h => by cases h⟩
 ·rw [hfn, hres]
  exact trodAll_cons_mk (shut_bool htb true) trodAll_mk0
 ·rw [hfn]
  refine trodAll_stays hl hb _ _ _ _ hr hA (fun x hx => ?_)
  exact hW0.lt x (by rw [hpq]; simp [hx])
 ·rw [hvars, hfn]
  rfl
theorem cells_of_has {P : Program} {w : World} {r : Reach} {base : Nat} {a : Addr} {e : TypeId} {n : Nat} (h : w.has P r base a e n) : ∃ b off cs t fz, a = ⟨b, off, none⟩ ∧ w.heap[b]? = some (.cells cs t fz) := by
 obtain ⟨_, h2, row, cells, h3, _⟩ := h
 obtain ⟨b, off, sp⟩ := a
 have h2 : sp = none := h2
 subst h2
 unfold World.shape? at h3
 split at h3
 ·rename_i c el fr hh
  exact ⟨b, off, c, el, fr, rfl, hh⟩
 ·cases h3
theorem own : ownKnob Try.prog.godebug = none := by kernel_rfl
theorem laidOut : laidOutB Try.prog = true := by kernel_rfl
theorem i64_of {n : Int} (h : (Lit.int .i64 n).wf = true) : I64 n := by
 unfold I64
 simp [Lit.wf, IntKind.min, IntKind.max, IntKind.signed, IntKind.bits] at h; omega
theorem w64_of {n : Int} (h : (Lit.int .u64 n).wf = true) : W64 n := by
 unfold W64
 simp [Lit.wf, IntKind.min, IntKind.max, IntKind.signed, IntKind.bits] at h; omega
set_option maxRecDepth 100000 in
theorem open_words {H : Type} {enc : TypeId × Value → H} {w : World} {base : Nat} {spare : Nat → Bool} {held : Bool} {fuel : Nat} {cs : List Value} {x : DataW H × List MemPlace} (h : DataW.trod enc Try.prog w base spare held fuel 58 cs = some x) :
  cs = [.slice none 0 0] ∨ ∃ (a : Addr) (len cap : Nat) (D : Nat → Int × Int), cs = [.slice (some a) len cap] ∧ ∀ i, i < len → w.cell? (a.add (i * 2)) = some (.int .i64 (D i).1) ∧ w.cell? (a.add (i * 2 + 1)) = some (.int .u64 (D i).2) ∧ (Lit.int .i64 (D i).1).wf = true ∧ (Lit.int .u64 (D i).2).wf = true := by
 have ce : Try.prog.cellsOf 63 = 2 := by kernel_rfl
 have c3 : Try.prog.cellsOf 3 = 1 := by kernel_rfl
 have c33 : Try.prog.cellsOf 33 = 1 := by kernel_rfl
 rcases Go.Deep.open_slice Try.underlying58 h with ⟨h0, _⟩ | ⟨a, len, cap, m, n, D, Pl, rfl, hb, hl, hm, hmm, rfl, hx⟩
 ·exact .inl h0
 right
 have hlm : len ≤ m := by rw [hmm]; split <;> omega
 have each : ∀ i, i < len → ∃ q : Int × Int, w.cell? (a.add (i * 2)) = some (.int .i64 q.1) ∧ w.cell? (a.add (i * 2 + 1)) = some (.int .u64 q.2) ∧ (Lit.int .i64 q.1).wf = true ∧ (Lit.int .u64 q.2).wf = true := by
  intro i hi
  obtain ⟨cs', h1, h2⟩ := hx i (by omega)
  rw [ce] at h1
  obtain ⟨_, hlen, hcell⟩ := World.cells?_some h1
  obtain ⟨xs, k, hk, hxy, _, hxl, hf⟩ := DataW.trod_struct Try.underlying63 h2
  match xs, hxl, cs', hlen with
  | [y0, y1], _, [v0, v1], _ =>
   have g0 := hf 0 _ rfl
   have g1 := hf 1 _ rfl
   simp [c3, c33] at g0 g1
   obtain ⟨n0, e0, _, w0⟩ := DataW.trod_int Try.underlying3 g0
   obtain ⟨n1, e1, _, w1⟩ := DataW.trod_int Try.underlying33 g1
   have e0 : v0 = .int .i64 n0 := by simpa using e0
   have e1 : v1 = .int .u64 n1 := by simpa using e1
   have k0 := hcell 0 (by omega)
   have k1 := hcell 1 (by omega)
   rw [Go.Deep.add_add] at k0 k1
   exact ⟨(n0, n1), by rw [← e0]; simpa using k0, by rw [← e1]; simpa using k1, w0, w1⟩
 obtain ⟨q, hq⟩ := Go.Deep.choose_lt each
 exact ⟨a, len, cap, q, rfl, hq⟩
set_option maxRecDepth 100000 in
/-- a list of words that came in, or none -/
theorem open_load {H : Type} {enc : TypeId × Value → H} {W : World} {base : Nat} {spare : Nat → Bool} {held : Bool} {fuel : Nat} {v : Value} {x : DataW H × List MemPlace} (hv : Value.okWide Try.prog W .any base 58 v) (hf : DataW.trod enc Try.prog W 0 spare held fuel 58 v.cells.toList = some x) :
  ∃ (b : Bool) (r : Row) (D : Nat → Int × Int), v = v0 b r ∧ (b = false → RowV r D ∧ W.heap[r.b]? = some (.cells r.cs r.t r.fz)) := by
 obtain ⟨a0, len0, cap0, rfl⟩ := okWide_slice Try.underlying58 hv
 rcases open_words hf with he | ⟨ad, len, cap, D, he, hcell⟩
 ·simp only [Value.cells] at he
  injection he with he _
  injection he with e1 e2 e3
  subst e1; subst e2; subst e3
  exact ⟨true, ⟨0, 0, 0, 0, 0, 0, 0, #[], (0, 0)⟩, fun _ => (0, 0), rfl, fun h => by cases h⟩
 ·simp only [Value.cells] at he
  injection he with he _
  injection he with e1 e2 e3
  subst e1; subst e2; subst e3
  have hh : W.has Try.prog .any base ad 63 cap0 := by
   unfold Value.okWide at hv
   rw [Try.underlying58] at hv
   simp only [Cell.okWide] at hv
   rw [Try.underlying58] at hv
   simp only [Cell.ok] at hv
   rw [Try.underlying58] at hv
   exact hv.2.2
  obtain ⟨b, off, cs, t, fz, rfl, hb⟩ := cells_of_has hh
  refine ⟨false, ⟨b, off, len0, cap0, 2, 0, t, cs, fz⟩, D, rfl, fun _ => ⟨⟨rfl, fun i hi => ?_⟩, hb⟩⟩
  obtain ⟨c0, c1, w0, w1⟩ := hcell i hi
  rw [addr_add] at c0 c1
  refine ⟨?_, ?_, i64_of w0, w64_of w1⟩
  ·simpa [World.cell?, hb] using c0
  ·simpa [World.cell?, hb, Nat.add_assoc] using c1
set_option maxRecDepth 100000 in
theorem contract (H : Type) (enc : TypeId × Value → H) (W : World) (base : Nat) (args : Array Value) (ds gs : List (DataW H)) (before : List MemPlace)
  (hval0 : ∀ (j : Nat) t v, Try.f7.params[j]? = some t → args[j]? = some v → Value.okWide Try.prog W .any base t v)
  (hW : DataW.Whole enc Try.prog Try.f7.params.toList Rows.readyEndsSpec.vars false W args.toList ds gs before) :
  Calls Try.prog 7 args W fun e W' => ∃ v, e = .returned v ∧ Rows.readyEndsSpec.post enc Try.prog Try.f7 false true false false W args v W' := by
 have hval := hval0
 have hW' := hW
 obtain ⟨p, q, hA0, hV, rfl, hfz, hnd⟩ := hW
 have hA : DataW.TrodAll enc Try.prog W 0 (fun _ => true) true Try.f7.params.toList args.toList ds p := hA0
 rw [Try.params7] at hA hval
 obtain ⟨v0, vs0, d0, ds0, p0, q0, hargs, rfl, rfl, h0, r0⟩ := trodAll_cons hA
 obtain ⟨v1, vs1, d1, ds1, p1, q1, rfl, rfl, rfl, h1, r1⟩ := trodAll_cons r0
 obtain ⟨v2, vs2, d2, ds2, p2, q2, rfl, rfl, rfl, h2, r2⟩ := trodAll_cons r1
 obtain ⟨rfl, rfl, rfl⟩ := trodAll_nil r2
 obtain rfl : args = #[v0, v1, v2] := by cases args; simp_all
 obtain ⟨a1, rfl, rfl, rfl, w1⟩ := open_int Try.underlying3 (hval 1 3 v1 rfl rfl) h1
 obtain ⟨a2, rfl, rfl, rfl, w2⟩ := open_int Try.underlying3 (hval 2 3 v2 rfl rfl) h2
 obtain ⟨rfl, rfl⟩ := trodVars_none hV
 have hrun : Calls Try.prog 7 #[v0, .int .i64 a1, .int .i64 a2] W fun e w' => e = .returned (.bool true) ∧ Below W.heap.size W w' := by
  obtain ⟨f0, hf0⟩ := h0
  obtain ⟨b0, s0, D0, rfl, g0⟩ := open_load (hval 0 58 _ rfl rfl) hf0
  cases b0 with
  | true => exact ends_any (z := 0) (r1 := s0) (D1 := D0) (.inl rfl) (i64_of w1) (i64_of w2) (fun h => by cases h) (fun h => by cases h)
  | false => exact ends_any (z := 2) (r1 := s0) (D1 := D0) (.inr rfl) (i64_of w1) (i64_of w2) (fun _ => (g0 rfl).1) (fun _ => (g0 rfl).2)
 refine hrun.mono fun e W' ⟨he, hk⟩ => ?_
 subst he
 refine ⟨_, rfl, law_post laidOut ?_ rfl rfl Try.underlying4 hW' hk rfl⟩
 rw [Try.params7]
 intro t ht
 simp only [List.mem_cons, List.not_mem_nil, or_false] at ht
 rcases ht with rfl | rfl | rfl
 all_goals exact ⟨by kernel_rfl, of_decide_eq_true (by kernel_rfl)⟩
set_option maxRecDepth 100000 in
theorem lifted (os : Os) (started : os.Started) (H : Type) (enc : TypeId × Value → H) :
  ReturnsInHanded {} Try.checked os 7 .any (Rows.readyEndsSpec.pre6 enc Try.prog Try.f7 Rows.readyEndsRow.domain false) (Rows.readyEndsSpec.post enc Try.prog Try.f7 false true false false) := by
 refine returnsInHanded_of_change (C := Try.checked) own started (by kernel_rfl) Try.func7
  (ChangeSpec.witness6 (enc := enc) (C := Try.checked) false ⟨#[], #[.slice none 0 0, .int .i64 0, .int .i64 0], []⟩ 8 (by kernel_rfl) (by kernel_rfl) (by kernel_rfl) (by kernel_rfl)) ?_
 intro W base args ds gs before hval0 hW hcnd _
 exact contract H enc W base args ds gs before hval0 hW
set_option maxRecDepth 1000000 in
theorem said : Rows.ReadyEndsSaid :=
 OpenClaim.holds_of_wide 7 Try.f7 rfl rfl rfl rfl rfl rfl rfl ⟨rfl, rfl, rfl, rfl, rfl⟩ rfl rfl rfl rfl rfl (by kernel_rfl) Try.func7 (by kernel_rfl)
  (of_decide_eq_true (by kernel_rfl)) (by unfold Func.isWrapper; first | (rw [if_pos (by decide +kernel)]; kernel_rfl) | (rw [if_neg (by decide +kernel)]; exact ⟨rfl, rfl⟩))
  (fun os started H enc _ => lifted os started H enc)
#print axioms said
end Go.Proofs.Ytgaelfnoffejgaa
end
