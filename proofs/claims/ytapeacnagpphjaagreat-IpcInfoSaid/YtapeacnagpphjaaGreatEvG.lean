/-
  The operations that leave the things as they are.
-/
import Derived.Test.YtapeacnagpphjaaGreatEvF
set_option linter.unusedSimpArgs false
set_option linter.unusedVariables false
noncomputable section
namespace Go.Ev
open Go
variable {E : Env} {P : Program} {w : World}

theorem od_run {ρ : Rho} {n : Nat} {fr : Fr} {a : Act} (hf : FrOk E ρ n fr a.tmps) {x : Operand} {x' : Od} (hx : cOd x = some x') {v : V} (h : od x' fr = some v) : a.eval x = v.γ E ρ ∧ v.bd n := by
  cases x with
  | tmp t =>
    simp [cOd] at hx; subst hx
    have h : fr.get (keyOf t) = some v := h
    obtain ⟨h1, h2⟩ := hf t v h
    exact ⟨by simp [Act.eval, h1], h2⟩
  | const c =>
    simp only [cOd] at hx
    split at hx
    · rename_i u hu
      simp at hx; subst hx
      have h : some u = some v := h
      simp at h; subst h
      obtain ⟨h1, h2⟩ := ofV_γ E ρ c u hu
      exact ⟨h1.symm, bd_mono (Nat.zero_le _) u h2⟩
    · simp at hx
  | global g => simp [cOd] at hx
  | func f =>
    simp [cOd] at hx; subst hx
    have h : some (V.fn f [] []) = some v := h
    simp at h; subst h
    exact ⟨rfl, trivial, trivial⟩
theorem ods_cons (x : Od) (l : List Od) (fr : Fr) : ods (x :: l) fr = oc (od x fr) (fun a => oc (ods l fr) (fun b => some (a :: b)) none) none := rfl
theorem ods_run {ρ : Rho} {n : Nat} {fr : Fr} {a : Act} (hf : FrOk E ρ n fr a.tmps) : ∀ {l : List Operand} {l' : List Od}, cOds l = some l' → ∀ {vs : List V}, ods l' fr = some vs → l.map a.eval = γL E ρ vs ∧ bdL n vs
  | [], l', hl, vs, h => by
    simp [cOds] at hl; subst hl
    have h : some ([] : List V) = some vs := h
    simp at h; subst h; exact ⟨rfl, trivial⟩
  | x :: r, l', hl, vs, h => by
    simp only [cOds] at hl
    split at hl
    · rename_i x' r' h1 h2
      simp at hl; subst hl
      rw [ods_cons, oc_eq] at h
      split at h
      · rename_i v hv
        rw [oc_eq] at h
        split at h
        · rename_i vs' hvs
          simp at h; subst h
          obtain ⟨e1, b1⟩ := od_run hf h1 hv
          obtain ⟨e2, b2⟩ := ods_run hf h2 hvs
          exact ⟨by simp [γL, e1, e2], b1, b2⟩
        · simp at h
      · simp at h
    · simp at hl

/-! ### parts laid into a value -/
theorem fold_set (vs : List Value) (off : Nat) : ∀ (k : Nat) (cs : Array Value) (j : Nat), off + k + vs.length ≤ cs.size →
    ((vs.zipIdx k).foldl (fun cs (c, i) => cs.setIfInBounds (off + i) c) cs)[j]? = if off + k ≤ j ∧ j < off + k + vs.length then vs[j - (off + k)]? else cs[j]? := by
  induction vs with
  | nil =>
    intro k cs j _
    rw [if_neg (by simp only [List.length_nil]; omega)]
    rfl
  | cons v r ih =>
    intro k cs j hl
    simp only [List.length_cons] at hl
    simp only [List.zipIdx_cons, List.foldl_cons]
    rw [ih (k + 1) _ j (by simp; omega)]
    simp only [List.length_cons]
    by_cases h1 : off + (k + 1) ≤ j ∧ j < off + (k + 1) + r.length
    · rw [if_pos h1, if_pos (by omega)]
      rw [show j - (off + k) = (j - (off + (k + 1))) + 1 from by omega]
      simp
    · rw [if_neg h1, Array.getElem?_setIfInBounds]
      by_cases h2 : off + k = j
      · subst h2
        rw [if_pos rfl, if_pos (by omega), if_pos (by omega)]
        simp
      · rw [if_neg h2, if_neg (by omega)]
theorem fold_spl {ρ : Rho} {l m : List V} {off : Nat} {v : V} (h : spl l off v.cells = some m) :
    (v.γ E ρ).cells.zipIdx.foldl (fun cs (c, j) => cs.setIfInBounds (off + j) c) (γL E ρ l).toArray = (γL E ρ m).toArray := by
  have hf := spl_fits _ _ _ _ h
  apply Array.ext_getElem?
  intro j
  rw [cells_γ, ← Array.foldl_toList]
  have e : ((γL E ρ v.cells).toArray.zipIdx).toList = (γL E ρ v.cells).zipIdx 0 := by simp
  rw [e]
  have hf' : off + 0 + (γL E ρ v.cells).length ≤ (γL E ρ l).toArray.size := by simp [γL_length]; omega
  rw [fold_set (γL E ρ v.cells) off 0 (γL E ρ l).toArray j hf']
  simp only [Nat.add_zero, γL_length, List.getElem?_toArray, γL_get, spl_get _ _ _ _ h]
  split <;> rfl
theorem fill_cons (fr : Fr) (z : List V) (off sz : Nat) (x : Od) (r : List (Nat × Nat × Od)) :
    fill fr z ((off, sz, x) :: r) = oc (od x fr) (fun v => bc (Nat.beq (len v.cells) sz) (oc (spl z off v.cells) (fun z' => fill fr z' r) none) none) none := rfl
theorem fill_step {fr : Fr} {z l : List V} {off sz : Nat} {x : Od} {r : List (Nat × Nat × Od)} (h : fill fr z ((off, sz, x) :: r) = some l) :
    ∃ v z', od x fr = some v ∧ v.cells.length = sz ∧ spl z off v.cells = some z' ∧ fill fr z' r = some l := by
  rw [fill_cons, oc_eq] at h
  split at h
  · rename_i v hv
    rw [bc_eq] at h
    split at h
    · rename_i hl
      rw [oc_eq] at h
      split at h
      · rename_i z' hz
        exact ⟨v, z', hv, by simpa [len_eq] using hl, hz, h⟩
      · simp at h
    · simp at h
  · simp at h
theorem bdL_spl {n off : Nat} {z z' vs : List V} (h : spl z off vs = some z') (h1 : bdL n z) (h2 : bdL n vs) : bdL n z' := by
  rw [bdL_eq] at *
  intro y hy
  rcases spl_mem _ _ _ _ h y hy with h3 | h3
  · exact h1 y h3
  · exact h2 y h3
theorem fillE_run {ρ : Rho} {fr : Fr} {a : Act} {n : Nat} (hf : FrOk E ρ n fr a.tmps) (esz : Nat) (place : Nat → Option (Nat × Nat)) (hp : ∀ i, place i = some (i * esz, esz)) : ∀ (ps : List (Nat × Operand)) (ps' : List (Nat × Nat × Od)) (z l : List V),
    cElems esz ps = some ps' → fill fr z ps' = some l → bdL n z → Instr.fill place (γL E ρ z).toArray (ps.map fun (i, x) => (i, a.eval x)) = some (γL E ρ l).toArray ∧ bdL n l
  | [], ps', z, l, hc, h, hz => by
    simp [cElems] at hc; subst hc
    have h : some z = some l := h
    simp at h; subst h; exact ⟨rfl, hz⟩
  | (i, x) :: r, ps', z, l, hc, h, hz => by
    simp only [cElems] at hc
    split at hc
    · rename_i x' r' hx hr
      simp at hc; subst hc
      obtain ⟨v, z', hv, hs, hz', hl⟩ := fill_step h
      obtain ⟨e1, b1⟩ := od_run hf hx hv
      have hfit := spl_fits _ _ _ _ hz'
      obtain ⟨e2, b2⟩ := fillE_run hf esz place hp r r' z' l hr hl (bdL_spl hz' hz (cells_bd b1))
      refine ⟨?_, b2⟩
      simp only [List.map_cons, Instr.fill, hp, e1]
      have hsz : (v.γ E ρ).cells.size = esz := by rw [cells_γ]; simp [γL_length, hs]
      have hzs : (γL E ρ z).toArray.size = z.length := by simp [γL_length]
      have hc : ¬ ((decide ((v.γ E ρ).cells.size ≠ esz) || decide (i * esz + (v.γ E ρ).cells.size > (γL E ρ z).toArray.size)) = true) := by
        rw [hsz, hzs]; simp; omega
      simp only [ne_eq] at hc
      rw [if_neg (by simpa using hc), fold_spl hz']
      exact e2
    · simp at hc
theorem fillP_run {ρ : Rho} {fr : Fr} {a : Act} {n : Nat} (hf : FrOk E ρ n fr a.tmps) (fs : List (Nat × Nat × Bool)) (place : Nat → Option (Nat × Nat)) (hp : ∀ i o s g, fs[i]? = some (o, s, g) → place i = some (o, s)) : ∀ (ps : List (Nat × Operand)) (ps' : List (Nat × Nat × Od)) (z l : List V),
    cParts fs ps = some ps' → fill fr z ps' = some l → bdL n z → Instr.fill place (γL E ρ z).toArray (ps.map fun (i, x) => (i, a.eval x)) = some (γL E ρ l).toArray ∧ bdL n l
  | [], ps', z, l, hc, h, hz => by
    simp [cParts] at hc; subst hc
    have h : some z = some l := h
    simp at h; subst h; exact ⟨rfl, hz⟩
  | (i, x) :: r, ps', z, l, hc, h, hz => by
    simp only [cParts] at hc
    split at hc
    · rename_i off sz g x' r' hq hx hr
      rw [nth_eq] at hq
      simp at hc; subst hc
      obtain ⟨v, z', hv, hs, hz', hl⟩ := fill_step h
      obtain ⟨e1, b1⟩ := od_run hf hx hv
      have hfit := spl_fits _ _ _ _ hz'
      obtain ⟨e2, b2⟩ := fillP_run hf fs place hp r r' z' l hr hl (bdL_spl hz' hz (cells_bd b1))
      refine ⟨?_, b2⟩
      simp only [List.map_cons, Instr.fill, hp i off sz g hq, e1]
      have hsz : (v.γ E ρ).cells.size = sz := by rw [cells_γ]; simp [γL_length, hs]
      have hzs : (γL E ρ z).toArray.size = z.length := by simp [γL_length]
      have hc : ¬ ((decide ((v.γ E ρ).cells.size ≠ sz) || decide (off + (v.γ E ρ).cells.size > (γL E ρ z).toArray.size)) = true) := by
        rw [hsz, hzs]; simp; omega
      simp only [ne_eq] at hc
      rw [if_neg (by simpa using hc), fold_spl hz']
      exact e2
    · simp at hc

theorem zero_info {t : Nat} {z : V} (h : zeroOf P t = some z) (ρ : Rho) : ∃ i, P.info? t = some i ∧ i.zero = some (z.γ E ρ) ∧ i.size = sizeP P t := by
  unfold zeroOf at h
  split at h
  · rename_i i hi
    split at h
    · rename_i v hv
      exact ⟨i, hi, by rw [hv, (ofV_γ E ρ v z h).1], by simp [sizeP, hi]⟩
    · simp at h
  · simp at h
theorem isTy_info {t : Nat} (h : isTy P t = true) : ∃ i, P.info? t = some i ∧ i.size = sizeP P t := by
  unfold isTy at h
  simp only [Bool.and_eq_true] at h
  obtain ⟨i, hi⟩ := Option.isSome_iff_exists.1 h.1
  exact ⟨i, hi, by simp [sizeP, hi]⟩
theorem ti_str_zero {C : Nat → TI} (hC : TiOk P C) {t : Nat} {fs : List (Nat × Nat × Bool)} {z : List V} (h : C t = .str fs z) : ∃ x, zeroOf P t = some x ∧ x.cells = z := by
  rcases hC t with e1 | e1
  · simp [h] at e1
  rw [h] at e1
  unfold tiOf at e1
  split at e1
  · rename_i d x hu hz
    refine ⟨x, hz, ?_⟩
    unfold tiD at e1
    split at e1
    · split at e1
      · split at e1 <;> simp at e1
      · simp at e1
    · split at e1
      · simp at e1; exact e1.2.symm
      · simp at e1
    · split at e1 <;> simp at e1
    · split at e1 <;> simp at e1
  · simp at e1
theorem ti_arr_zero {C : Nat → TI} (hC : TiOk P C) {t n e s : Nat} {g : Bool} {z : List V} (h : C t = .arr n e s g z) : ∃ x, zeroOf P t = some x ∧ x.cells = z := by
  rcases hC t with e1 | e1
  · simp [h] at e1
  rw [h] at e1
  unfold tiOf at e1
  split at e1
  · rename_i d x hu hz
    refine ⟨x, hz, ?_⟩
    unfold tiD at e1
    split at e1
    · split at e1
      · split at e1 <;> simp at e1
      · simp at e1
    · split at e1 <;> simp at e1
    · split at e1
      · simp at e1; exact e1.2.2.2.2.symm
      · simp at e1
    · split at e1 <;> simp at e1
  · simp at e1
theorem fields_mapM (l : List Field) (h : ∀ f ∈ l, isTy P f.type = true) : l.mapM (fun f => (P.info? f.type).map fun i => (f.offset, i.size)) = some (l.map fun f => (f.offset, sizeP P f.type)) := by
  induction l with
  | nil => rfl
  | cons f r ih =>
    obtain ⟨i, hi, hs⟩ := isTy_info (h f (by simp))
    simp [List.mapM_cons, hi, hs, ih (fun g hg => h g (by simp [hg]))]

/-! ### cells of a thing -/
/-- the block of a live thing, and its cells that are known -/
theorem O.block {ρ : Rho} {L : Pl} {hp : Array Obj} {o : O} {n : Nat} (hi : o.Is E ρ L hp) (hb : o.bd n) (hl : o.live = true) :
    ∃ (cs : Array Value) (t : TypeId), hp[L.b]? = some (.cells cs t (0, 0)) ∧ (∀ i v, cellAt o i = some v → cs[i]? = some (v.γ E ρ) ∧ v.bd n) := by
  cases o with
  | cells t l =>
    refine ⟨_, t, hi, fun i v hv => ?_⟩
    have hv : nth l i = some v := hv
    rw [nth_eq] at hv
    exact ⟨by simp [γL_get, hv], (bdL_eq n l).1 hb v (List.mem_of_getElem? hv)⟩
  | arr t k d z tr =>
    obtain ⟨h1, cs, h2, h3, h4⟩ := hi
    refine ⟨cs, t, h2, fun i v hv => ?_⟩
    have hv : bc (Nat.blt i k) (oc (tr.get d i) some (some z)) none = some v := hv
    rw [bc_eq] at hv
    split at hv
    · rename_i hlt
      have hlt : i < k := by simpa using hlt
      have e : trAt tr d z i = v := by
        unfold trAt
        rw [oc_eq] at hv
        split at hv
        · rename_i u hu; rw [hu]; simpa using hv
        · rename_i hu; rw [hu]; simpa using hv
      rw [← e]
      exact ⟨h4 i hlt, trAt_bd hb (by omega)⟩
    · simp at hv
  | vec t x k l =>
    obtain ⟨cs, h2, h3, h4, h5, h6, h7⟩ := hi
    refine ⟨cs, t, h2, fun i v hv => ?_⟩
    have hv : nth l i = some v := hv
    rw [nth_eq] at hv
    have hlt := (List.getElem?_eq_some_iff.1 hv).1
    exact ⟨by rw [h7 i hlt, hv]; rfl, (bdL_eq n l).1 hb v (List.mem_of_getElem? hv)⟩
  | varr t k d z tr =>
    obtain ⟨h1, cs, h2, h3, h4, h5, h6⟩ := hi
    refine ⟨cs, t, h2, fun i v hv => ?_⟩
    have hv : bc (Nat.blt i k) (oc (tr.get d i) some (some z)) none = some v := hv
    rw [bc_eq] at hv
    split at hv
    · rename_i hlt
      have hlt : i < k := by simpa using hlt
      have e : trAt tr d z i = v := by
        unfold trAt
        rw [oc_eq] at hv
        split at hv
        · rename_i u hu; rw [hu]; simpa using hv
        · rename_i hu; rw [hu]; simpa using hv
      rw [← e]
      exact ⟨h6 i hlt, trAt_bd hb (by omega)⟩
    · simp at hv
  | dead => simp [O.live] at hl
theorem cellsAt_get {o : O} : ∀ (n off : Nat) (l : List V), cellsAt o off n = some l → l.length = n ∧ ∀ j, j < n → cellAt o (off + j) = l[j]?
  | 0, off, l, h => by
    have h : some ([] : List V) = some l := h
    simp at h; subst h
    exact ⟨rfl, fun j hj => by omega⟩
  | n + 1, off, l, h => by
    simp only [cellsAt] at h
    split at h
    · rename_i v l' h1 h2
      simp at h; subst h
      obtain ⟨h3, h4⟩ := cellsAt_get n (off + 1) l' h2
      refine ⟨by simp [h3], fun j hj => ?_⟩
      cases j with
      | zero => simpa using h1
      | succ j =>
        have := h4 j (by omega)
        rw [show off + (j + 1) = off + 1 + j from by omega, this]; simp
    · simp at h
theorem loadN_get {o : O} {off n : Nat} {l : List V} (h : loadN o off n = some l) : l.length = n ∧ ∀ j, j < n → cellAt o (off + j) = l[j]? := by
  have lst : ∀ c : List V, takeA n (dropA off c) = some l → (∀ i, cellAt o i = nth c i) → l.length = n ∧ ∀ j, j < n → cellAt o (off + j) = l[j]? := by
    intro c hc ho
    rw [dropA_eq] at hc
    obtain ⟨rfl, h2⟩ := takeA_eq _ _ _ hc
    refine ⟨by simp; simp at h2; omega, fun j hj => ?_⟩
    rw [ho, nth_eq, List.getElem?_take, if_pos hj, List.getElem?_drop]
  cases o with
  | cells t c => exact lst c h (fun _ => rfl)
  | vec t x k c => exact lst c h (fun _ => rfl)
  | arr t k d z tr => exact cellsAt_get n off l h
  | varr t k d z tr => exact cellsAt_get n off l h
  | dead => exact cellsAt_get n off l h
theorem cellAt_live {o : O} {i : Nat} {v : V} (h : cellAt o i = some v) : o.live = true := by
  cases o <;> first | rfl | (simp [cellAt] at h)
theorem loadVar_many2 {t : Nat} (ht : isTy P t = true) (hg : aggP P t = true) {b o : Nat} {cs : Array Value} {t' : TypeId} {f : Nat × Nat} {vs : List Value} (hc : w.heap[b]? = some (.cells cs t' f)) (hl : vs.length = sizeP P t) (hv : ∀ j, j < vs.length → cs[o + j]? = vs[j]?) :
    (loadVar t ⟨b, o, none⟩).run P w = .ok (.agg vs.toArray) w := by
  obtain ⟨h1, h2⟩ := isTy_run (w := w) ht
  unfold loadVar
  rw [Sem.run_bind, h2]
  simp only [Result.andThen_ok, hg, if_true, Sem.run_bind, h1]
  have := run_loadCells_list (P := P) w ⟨b, o, none⟩ vs (fun j v hv2 => by
    have hj := (List.getElem?_eq_some_iff.1 hv2).1
    rw [addr_add, cell_at hc, hv j hj, hv2])
  rw [hl] at this
  simp [this]
end Go.Ev
end
