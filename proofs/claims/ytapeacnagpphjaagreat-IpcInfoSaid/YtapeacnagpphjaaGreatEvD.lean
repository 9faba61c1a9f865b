/-
  Types as the evaluator knows them.
-/
import Derived.Test.YtapeacnagpphjaaGreatEvC
set_option linter.unusedSimpArgs false
set_option linter.unusedVariables false
noncomputable section
namespace Go.Ev
open Go
variable {E : Env}
/-- what is said of the types is so -/
def TiOk (P : Program) (C : Nat → TI) : Prop := ∀ t, C t = .none ∨ C t = tiOf P t

section
variable {P : Program} {w : World}
theorem zeroOf_run {t : Nat} {z : V} (h : zeroOf P t = some z) (ρ : Rho) : (zeroValue t).run P w = .ok (z.γ E ρ) w ∧ z.bd 0 := by
  unfold zeroOf at h
  split at h
  · rename_i i hi
    split at h
    · rename_i v hv
      obtain ⟨h1, h2⟩ := ofV_γ E ρ v z h
      refine ⟨?_, h2⟩
      simp [zeroValue, typeInfo, hi, hv, h1]
    · simp at h
  · simp at h
theorem isTy_run {t : Nat} (h : isTy P t = true) : (sizeOf t).run P w = .ok (sizeP P t) w ∧ (isAgg t).run P w = .ok (aggP P t) w := by
  unfold isTy at h
  simp only [Bool.and_eq_true] at h
  obtain ⟨h1, h2⟩ := h
  obtain ⟨i, hi⟩ := Option.isSome_iff_exists.1 h1
  obtain ⟨d, hd⟩ := Option.isSome_iff_exists.1 h2
  constructor
  · simp [sizeOf, typeInfo, hi, sizeP]
  · unfold isAgg aggP
    rw [Sem.run_bind, run_underlying hd w]
    simp only [Result.andThen_ok, hd]
    cases d <;> rfl
theorem sizeP_run {t : Nat} {z : V} (h : zeroOf P t = some z) : (sizeOf t).run P w = .ok (sizeP P t) w := by
  unfold zeroOf at h
  split at h
  · rename_i i hi
    simp [sizeOf, typeInfo, hi, sizeP]
  · simp at h

/-- what C says of a type, in the model's words -/
theorem ti_zero {C : Nat → TI} (hC : TiOk P C) {t : Nat} {z : List V} (h : (C t).zero = some z) (ρ : Rho) :
    ∃ x : V, (zeroValue t).run P w = .ok (x.γ E ρ) w ∧ x.cells = z ∧ bdL 0 z ∧ z.length = sizeP P t ∧ (sizeOf t).run P w = .ok (sizeP P t) w ∧ allB V.one z = true := by
  rcases hC t with e | e
  · simp [e, TI.zero] at h
  rw [e] at h
  unfold tiOf at h
  have key : ∀ x : V, zeroOf P t = some x → x.cells = z → z.length = sizeP P t → allB V.one z = true →
      ∃ x : V, (zeroValue t).run P w = .ok (x.γ E ρ) w ∧ x.cells = z ∧ bdL 0 z ∧ z.length = sizeP P t ∧ (sizeOf t).run P w = .ok (sizeP P t) w ∧ allB V.one z = true := by
    intro x h1 h2 h3 h4
    obtain ⟨h5, h6⟩ := zeroOf_run (P := P) (w := w) h1 ρ
    exact ⟨x, h5, h2, by rw [← h2]; exact cells_bd h6, h3, sizeP_run h1, h4⟩
  split at h
  · rename_i d x hu hz
    unfold tiD at h
    split at h
    · split at h
      · split at h
        · rename_i hc
          simp only [Bool.and_eq_true, Nat.beq_eq] at hc
          simp only [TI.zero, Option.some.injEq] at h
          subst h
          exact key _ hz rfl (by simp [hc.1.2]) (by rfl)
        · simp [TI.zero] at h
      · simp [TI.zero] at h
    · split at h
      · rename_i hc
        simp only [Bool.and_eq_true, Nat.beq_eq, len_eq] at hc
        simp only [TI.zero, Option.some.injEq] at h
        subst h
        exact key _ hz rfl hc.1.1.1 hc.1.2
      · simp [TI.zero] at h
    · split at h
      · rename_i hc
        simp only [Bool.and_eq_true, Nat.beq_eq, len_eq] at hc
        simp only [TI.zero, Option.some.injEq] at h
        subst h
        exact key _ hz rfl hc.1.1.1 hc.1.2
      · simp [TI.zero] at h
    · split at h
      · rename_i hc
        simp only [Bool.and_eq_true, Nat.beq_eq] at hc
        simp only [TI.zero, Option.some.injEq] at h
        subst h
        exact key _ hz (one_cells hc.1.1.2) (by simp [hc.1.1.1]) (by simp [allB, allC, hc.1.1.2])
      · simp [TI.zero] at h
  · simp [TI.zero] at h

theorem ti_scal2 {C : Nat → TI} (hC : TiOk P C) {t : Nat} {z : V} {k : SK} (h : C t = .scal z k) : ∃ d, P.underlying t = some d ∧ isAggD d = false ∧ k = scalOf d ∧ bytesP P t ≤ 16 ∧ sizeP P t = 1 ∧ zeroOf P t = some z ∧ z.one = true := by
  rcases hC t with e | e
  · simp [h] at e
  rw [h] at e
  unfold tiOf at e
  split at e
  · rename_i d x hu hz
    refine ⟨d, hu, ?_⟩
    unfold tiD at e
    split at e
    · split at e
      · split at e <;> simp at e
      · simp at e
    · split at e <;> simp at e
    · split at e <;> simp at e
    · split at e
      · rename_i hc
        simp only [Bool.and_eq_true, Bool.not_eq_true', Nat.beq_eq, Nat.ble_eq] at hc
        simp at e
        obtain ⟨rfl, rfl⟩ := e
        exact ⟨hc.1.2, rfl, hc.2, hc.1.1.1, hz, hc.1.1.2⟩
      · simp at e
  · simp at e
theorem ti_scal {C : Nat → TI} (hC : TiOk P C) {t : Nat} {z : V} {k : SK} (h : C t = .scal z k) : ∃ d, P.underlying t = some d ∧ isAggD d = false ∧ k = scalOf d := by
  obtain ⟨d, h1, h2, h3, _⟩ := ti_scal2 hC h
  exact ⟨d, h1, h2, h3⟩
theorem ti_slc {C : Nat → TI} (hC : TiOk P C) {t e s bs : Nat} {ez : List V} (h : C t = .slc e s bs ez) :
    P.underlying t = some (.slice e) ∧ isTy P e = true ∧ sizeP P e = s ∧ bytesP P e = bs ∧ (∃ x, zeroOf P e = some x ∧ x.cells = ez) ∧ ez.length = s ∧ allB V.one ez = true := by
  rcases hC t with e1 | e1
  · simp [h] at e1
  rw [h] at e1
  unfold tiOf at e1
  split at e1
  · rename_i d x hu hz
    unfold tiD at e1
    split at e1
    · split at e1
      · rename_i ez' he
        split at e1
        · rename_i hc
          simp only [Bool.and_eq_true, Nat.beq_eq, len_eq] at hc
          simp at e1
          obtain ⟨rfl, rfl, rfl, rfl⟩ := e1
          exact ⟨hu, hc.1.1.2, rfl, rfl, ⟨_, he, rfl⟩, hc.1.1.1, hc.2⟩
        · simp at e1
      · simp at e1
    · split at e1 <;> simp at e1
    · split at e1 <;> simp at e1
    · split at e1 <;> simp at e1
  · simp at e1
theorem ti_str {C : Nat → TI} (hC : TiOk P C) {t : Nat} {fs : List (Nat × Nat × Bool)} {z : List V} (h : C t = .str fs z) :
    ∃ fl, P.underlying t = some (.struct fl) ∧ fs = fieldsOf P fl.toList ∧ (∀ f ∈ fl.toList, isTy P f.type = true) ∧ isTy P t = true ∧ z.length = sizeP P t ∧ aggP P t = true := by
  rcases hC t with e1 | e1
  · simp [h] at e1
  rw [h] at e1
  unfold tiOf at e1
  split at e1
  · rename_i d x hu hz
    unfold tiD at e1
    split at e1
    · split at e1
      · split at e1 <;> simp at e1
      · simp at e1
    · rename_i fl
      split at e1
      · rename_i hc
        simp only [Bool.and_eq_true, Nat.beq_eq, len_eq, allB_eq] at hc
        simp at e1
        obtain ⟨rfl, rfl⟩ := e1
        exact ⟨fl, hu, rfl, hc.1.1.2, hc.2, hc.1.1.1, by simp [aggP, hu, isAggD]⟩
      · simp at e1
    · split at e1 <;> simp at e1
    · split at e1 <;> simp at e1
  · simp at e1
theorem ti_arr {C : Nat → TI} (hC : TiOk P C) {t n e s : Nat} {g : Bool} {z : List V} (h : C t = .arr n e s g z) :
    P.underlying t = some (.array n e) ∧ isTy P e = true ∧ sizeP P e = s ∧ aggP P e = g ∧ isTy P t = true ∧ z.length = sizeP P t ∧ aggP P t = true := by
  rcases hC t with e1 | e1
  · simp [h] at e1
  rw [h] at e1
  unfold tiOf at e1
  split at e1
  · rename_i d x hu hz
    unfold tiD at e1
    split at e1
    · split at e1
      · split at e1 <;> simp at e1
      · simp at e1
    · split at e1 <;> simp at e1
    · split at e1
      · rename_i hc
        simp only [Bool.and_eq_true, Nat.beq_eq, len_eq] at hc
        simp at e1
        obtain ⟨rfl, rfl, rfl, rfl, rfl⟩ := e1
        exact ⟨hu, hc.1.1.2, rfl, rfl, hc.2, hc.1.1.1, by simp [aggP, hu, isAggD]⟩
      · simp at e1
    · split at e1 <;> simp at e1
  · simp at e1
theorem fieldsOf_get (l : List Field) (i : Nat) (o s : Nat) (g : Bool) (h : (fieldsOf P l)[i]? = some (o, s, g)) : ∃ f, l[i]? = some f ∧ f.offset = o ∧ sizeP P f.type = s ∧ aggP P f.type = g := by
  induction l generalizing i with
  | nil => simp [fieldsOf] at h
  | cons f r ih =>
    cases i with
    | zero => simp [fieldsOf] at h; exact ⟨f, rfl, h⟩
    | succ i => simpa [fieldsOf] using ih i (by simpa [fieldsOf] using h)

theorem addr_add (b o j : Nat) : (⟨b, o, none⟩ : Addr).add j = ⟨b, o + j, none⟩ := by
  unfold Addr.add
  split
  · rename_i h; subst h; rfl
  · rfl
theorem cell_at {b : Nat} {c : Array Value} {t : TypeId} {f : Nat × Nat} (h : w.heap[b]? = some (.cells c t f)) (o : Nat) : w.cell? ⟨b, o, none⟩ = c[o]? := by
  simp [World.cell?, h]
theorem isAggRun {t : Nat} {d : TypeDesc} (hu : P.underlying t = some d) : (isAgg t).run P w = .ok (isAggD d) w := by
  unfold isAgg
  rw [Sem.run_bind, run_underlying hu w]
  cases d <;> rfl
theorem loadVar_one {t : Nat} {d : TypeDesc} (hu : P.underlying t = some d) (hd : isAggD d = false) {b o : Nat} {v : Value} (hc : w.cell? ⟨b, o, none⟩ = some v) : (loadVar t ⟨b, o, none⟩).run P w = .ok v w := by
  unfold loadVar
  rw [Sem.run_bind, isAggRun hu]
  simp only [Result.andThen_ok, hd, Bool.false_eq_true, if_false]
  simp [hc]
theorem loadVar_many {t : Nat} (ht : isTy P t = true) (hg : aggP P t = true) {b o : Nat} {l : List Value} {t' : TypeId} {f : Nat × Nat} (hc : w.heap[b]? = some (.cells l.toArray t' f)) (hl : o + sizeP P t ≤ l.length ∨ sizeP P t = 0) :
    (loadVar t ⟨b, o, none⟩).run P w = .ok (.agg ((l.drop o).take (sizeP P t)).toArray) w := by
  obtain ⟨h1, h2⟩ := isTy_run (w := w) ht
  unfold loadVar
  rw [Sem.run_bind, h2]
  simp only [Result.andThen_ok, hg, if_true, Sem.run_bind, h1]
  have hn : ((l.drop o).take (sizeP P t)).length = sizeP P t := by simp; omega
  have := run_loadCells_list (P := P) w ⟨b, o, none⟩ ((l.drop o).take (sizeP P t)) (fun j v hv => by
    rw [addr_add, cell_at hc]
    have hj : j < sizeP P t := by
      have := (List.getElem?_eq_some_iff.1 hv).1
      omega
    simpa [List.getElem?_take, hj] using hv)
  rw [hn] at this
  simp [this]
theorem part_run {t : Nat} (ht : isTy P t = true) {ρ : Rho} {l : List V} {o : Nat} {v : V} (h : part l o (sizeP P t) (aggP P t) = some v) :
    (Go.part t (γL E ρ l).toArray o).run P w = .ok (v.γ E ρ) w ∧ (∀ n, bdL n l → v.bd n) := by
  obtain ⟨h1, h2⟩ := isTy_run (w := w) ht
  unfold part at h
  unfold Go.part
  rw [Sem.run_bind, h2]
  simp only [Result.andThen_ok]
  split at h
  · rename_i hg
    simp only [Option.map_eq_some_iff] at h
    obtain ⟨m, h3, rfl⟩ := h
    obtain ⟨rfl, h4⟩ := takeA_eq _ _ _ h3
    refine ⟨?_, fun n hn => ?_⟩
    · simp only [hg, if_true, Sem.run_bind, h1, Result.andThen_ok, dropA_eq]
      simp only [V.γ, γL_take, γL_drop, Sem.run_pure]
      congr 2
      apply Array.ext_getElem?
      intro j
      simp only [Array.getElem?_extract, List.getElem?_toArray, List.getElem?_take, List.getElem?_drop]
      have hs : (γL E ρ l).toArray.size = (γL E ρ l).length := by simp
      rw [hs]
      by_cases hj : j < sizeP P t
      · rw [if_pos hj]
        by_cases hj2 : o + j < (γL E ρ l).length
        · rw [if_pos (by omega)]
        · rw [if_neg (by omega), List.getElem?_eq_none (by omega)]
      · rw [if_neg hj, if_neg (by omega)]
    · simp only [V.bd]
      rw [bdL_eq] at hn ⊢
      intro v hv
      rw [dropA_eq] at hv
      exact hn v (List.mem_of_mem_drop (List.mem_of_mem_take hv))
  · rename_i hg
    have hg : aggP P t = false := by simpa using hg
    rw [nth_eq] at h
    refine ⟨?_, fun n hn => (bdL_eq n l).1 hn v (List.mem_of_getElem? h)⟩
    have h3 : (γL E ρ l)[o]? = some (v.γ E ρ) := by rw [γL_get, h]; rfl
    simp [hg, h3]
end
end Go.Ev
end
