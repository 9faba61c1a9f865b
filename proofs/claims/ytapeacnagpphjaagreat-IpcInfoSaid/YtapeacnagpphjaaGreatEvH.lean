/-
  Each operation that leaves the things as they are.
-/
import Derived.Test.YtapeacnagpphjaaGreatEvG
set_option linter.unusedSimpArgs false
set_option linter.unusedVariables false
noncomputable section
namespace Go.Ev
open Go
variable {E : Env} {P : Program} {w : World}

theorem map1_some {f : Od → IOp} {x : Operand} {i : IOp} (h : map1 f x = some i) : ∃ x', cOd x = some x' ∧ i = f x' := by
  unfold map1 at h
  split at h
  · rename_i x' hx; simp at h; exact ⟨x', hx, h.symm⟩
  · simp at h
theorem map2_some {f : Od → Od → IOp} {x y : Operand} {i : IOp} (h : map2 f x y = some i) : ∃ x' y', cOd x = some x' ∧ cOd y = some y' ∧ i = f x' y' := by
  unfold map2 at h
  split at h
  · rename_i x' y' hx hy; simp at h; exact ⟨x', y', hx, hy, h.symm⟩
  · simp at h
/-- an option taken apart: what is handed on is fine, so it is there -/
theorem oc_ok {α : Type} {x : Option α} {f : α → Nat} {e : Nat} (h : oc x f e = 0) (he : e ≠ 0) : ∃ v, x = some v ∧ f v = 0 := by
  cases x with
  | none => exact absurd h he
  | some v => exact ⟨v, rfl, h⟩
theorem bc_ok {x : Bool} {a e : Nat} (h : bc x a e = 0) (he : e ≠ 0) : x = true ∧ a = 0 := by
  cases x with
  | false => exact absurd h he
  | true => exact ⟨rfl, h⟩
theorem vPtr_ok {x : Option V} {f : Ev.P → Nat → Nat} {e : Nat} (h : vPtr x f e = 0) (he : e ≠ 0) : ∃ id off, x = some (.ptr id off) ∧ f id off = 0 := by
  unfold vPtr at h
  split at h
  · exact ⟨_, _, rfl, h⟩
  · exact absurd h he
theorem vAgg_ok {x : Option V} {f : List V → Nat} {e : Nat} (h : vAgg x f e = 0) (he : e ≠ 0) : ∃ l, x = some (.agg l) ∧ f l = 0 := by
  unfold vAgg at h
  split at h
  · exact ⟨_, rfl, h⟩
  · exact absurd h he
theorem vTup_ok {x : Option V} {f : List V → Nat} {e : Nat} (h : vTup x f e = 0) (he : e ≠ 0) : ∃ l, x = some (.tup l) ∧ f l = 0 := by
  unfold vTup at h
  split at h
  · exact ⟨_, rfl, h⟩
  · exact absurd h he
theorem vLit_ok {x : Option V} {f : Int → Nat} {e : Nat} (h : vLit x f e = 0) (he : e ≠ 0) : ∃ k n, x = some (.i k n) ∧ f n = 0 := by
  unfold vLit at h
  split at h
  · exact ⟨_, _, rfl, h⟩
  · exact absurd h he
theorem vSl_ok {x : Option V} {f : Ev.P → Nat → Nat → Nat} {e : Nat} (h : vSl x f e = 0) (he : e ≠ 0) : ∃ v id off n, x = some v ∧ f id off n = 0 ∧ (∀ (E : Env) (ρ : Rho), ∃ c, v.γ E ρ = .slice (some ⟨(ρ id).b, off, none⟩) n c) ∧ (∀ m, v.bd m → id.toNat < m) := by
  unfold vSl at h
  split at h
  · exact ⟨_, _, _, _, rfl, h, fun E ρ => ⟨_, rfl⟩, fun m hm => hm⟩
  · exact ⟨_, _, _, _, rfl, h, fun E ρ => ⟨_, rfl⟩, fun m hm => hm⟩
  · exact absurd h he
theorem inI_ok {k : Int} {n m : Nat} (h : inI k n = some m) : k = (m : Int) ∧ m < n := by
  cases k with
  | ofNat a =>
    have h : bc (Nat.blt a n) (some a) none = some m := h
    rw [bc_eq] at h
    split at h
    · rename_i hlt; simp at h; subst h; exact ⟨rfl, by simpa using hlt⟩
    · simp at h
  | negSucc a => cases h
theorem inI'_ok {k : Int} {n m : Nat} (h : inI' k n = some m) : k = (m : Int) ∧ m ≤ n := by
  cases k with
  | ofNat a =>
    have h : bc (Nat.ble a n) (some a) none = some m := h
    rw [bc_eq] at h
    split at h
    · rename_i hlt; simp at h; subst h; exact ⟨rfl, by simpa using hlt⟩
    · simp at h
  | negSucc a => cases h
theorem eqGuard_run {op : BinOp} {t : TypeId} {x y : Operand} {a b : Value} (h : (∀ l, a ≠ .agg l) ∨ P.eqGuardType P.depth t = false) (hn : a ≠ .nilIface) : (eqGuard op t x y a b).run P w = .ok () w := by
  rcases h with h | h
  · cases op <;> simp [eqGuard] <;> (cases a <;> simp at h hn ⊢)
  · cases op <;> simp [eqGuard] <;> (cases a <;> simp at hn ⊢) <;> (cases b <;> simp [run_program, h])
theorem γ_not (ρ : Rho) (v : V) : v.γ E ρ ≠ .nilIface := by cases v <;> simp [V.γ]
/-- two values compared that are aggregates: of a type that may be -/
theorem bin_guard {Y : Ty} (hY : TyOk P Y) {t : TypeId} {q : QK} (hq : qkOf Y t = some q) {o : BinOp} {x y v : V} (h : binV o q x y = some v) (ρ : Rho) : (∀ l, x.γ E ρ ≠ .agg l) ∨ P.eqGuardType P.depth t = false := by
  by_cases hx : ∀ l, x ≠ .agg l
  · left
    intro l
    cases x <;> simp [V.γ] at hx ⊢
  · have : ∃ l, x = .agg l := by
      cases x <;> simp at hx ⊢
    obtain ⟨l, rfl⟩ := this
    right
    have hE : ∀ o, bEqQ o q (.agg l) y = some v → P.eqGuardType P.depth t = false := by
      intro o h
      unfold qkOf at hq
      split at hq
      · simp at hq; subst hq
        simp [bEqQ, bCmS, toE] at h
      · simp at hq; subst hq
        cases o <;> simp [bEqQ, eqC, eqO] at h
      · simp at hq; subst hq
        simp [bEqQ] at h
      · simp at hq; subst hq
        simp [bEqQ] at h
      · simp at hq; subst hq
        simp [bEqQ] at h
      all_goals first
        | (simp at hq; done)
        | (split at hq
           · rename_i l hl; exact (hY.eq t l hl).1
           · simp at hq)
    cases o
    case eql => exact hE .eql h
    case neq => exact hE .neq h
    all_goals
      exfalso
      simp [binV, BinOp.go, bAr, bDv, bSh, bCm, vInt, bSym, bDvS, bShS, bCmS, toE] at h

theorem part_ok {l : List V} {off sz : Nat} {g : Bool} {v : V} {t : TypeId} (hty : isTy P t = true) (h1 : sizeP P t = sz) (h2 : aggP P t = g) (h : part l off sz g = some v) (ρ : Rho) :
    (Go.part t (γL E ρ l).toArray off).run P w = .ok (v.γ E ρ) w ∧ (∀ n, bdL n l → v.bd n) := by
  rw [← h1, ← h2] at h
  exact part_run (w := w) hty h

theorem litN_γ {o : Option V} {i : Option Int} (h : litN o = some i) (ρ : Rho) : (o = none ∧ i = none) ∨ ∃ k n, o = some (.i k n) ∧ i = some n := by
  cases o with
  | none => simp [litN] at h; exact .inl ⟨rfl, h.symm⟩
  | some v =>
    cases v <;> simp [litN] at h
    rename_i k n
    exact .inr ⟨k, n, rfl, h.symm⟩
theorem bnds_some {n c l r m : Nat} {lo hi mx : Option Int} (h : bnds n c lo hi mx = some (l, r, m)) : bndM c mx = some m ∧ bndH n c m hi mx = some r ∧ bndL r lo = some l := by
  unfold bnds at h
  rw [oc_eq] at h
  split at h
  · rename_i m' h1
    rw [oc_eq] at h
    split at h
    · rename_i r' h2
      rw [oc_eq] at h
      split at h
      · rename_i l' h3
        simp at h
        obtain ⟨rfl, rfl, rfl⟩ := h
        exact ⟨h1, h2, h3⟩
      · simp at h
    · simp at h
  · simp at h
theorem bnds_run {lo hi mx : Option V} {li hi' mi : Option Int} {n c l r m : Nat} (h1 : litN lo = some li) (h2 : litN hi = some hi') (h3 : litN mx = some mi) (hb : bnds n c li hi' mi = some (l, r, m)) (b : Bool) (ρ : Rho) :
    (Instr.sliceBounds b n c (lo.map (V.γ E ρ)) (hi.map (V.γ E ρ)) (mx.map (V.γ E ρ))).run P w = .ok (l, r, m) w := by
  have bd : ∀ {k : IntKind} {i : Int} {y j : Nat} {code : BoundsCode}, inI' i y = some j → (Instr.sliceBound (.int k i) y code).run P w = .ok j w := by
    intro k i y j code h
    obtain ⟨rfl, hle⟩ := inI'_ok h
    simp [Instr.sliceBound, asIntOf, hle]
  obtain ⟨e1, e2, e3⟩ := bnds_some hb
  rcases litN_γ h1 ρ with ⟨rfl, rfl⟩ | ⟨k1, n1, rfl, rfl⟩ <;> rcases litN_γ h2 ρ with ⟨rfl, rfl⟩ | ⟨k2, n2, rfl, rfl⟩ <;> rcases litN_γ h3 ρ with ⟨rfl, rfl⟩ | ⟨k3, n3, rfl, rfl⟩ <;> simp only [bndM, bndH, bndL, Option.some.injEq] at e1 e2 e3 <;> first
    | (cases e2; done)
    | (subst e1; subst e2; subst e3; simp [Instr.sliceBounds, V.γ, bd])
    | (subst e1; subst e2; simp [Instr.sliceBounds, V.γ, bd e3])
    | (subst e1; subst e3; simp [Instr.sliceBounds, V.γ, bd e2])
    | (subst e1; simp [Instr.sliceBounds, V.γ, bd e2, bd e3])
    | (subst e3; simp [Instr.sliceBounds, V.γ, bd e1, bd e2])
    | (simp [Instr.sliceBounds, V.γ, bd e1, bd e2, bd e3])
theorem bnds_zero {li hi mi : Option Int} {l r m : Nat} (hb : bnds 0 0 li hi mi = some (l, r, m)) : l = 0 ∧ r = 0 ∧ m = 0 := by
  have key2 : ∀ {i : Int} {j y : Nat}, inI' i y = some j → j ≤ y := fun h => (inI'_ok h).2
  obtain ⟨e1, e2, e3⟩ := bnds_some hb
  have h1 : m = 0 := by
    cases mi with
    | none => simpa [bndM] using e1.symm
    | some v => have := key2 e1; omega
  subst h1
  have h2 : r = 0 := by
    cases hi <;> cases mi <;> simp only [bndH] at e2
    · simpa using e2.symm
    · cases e2
    · have := key2 e2; omega
    · have := key2 e2; omega
  subst h2
  refine ⟨?_, rfl, rfl⟩
  cases li with
  | none => simpa [bndL] using e3.symm
  | some v => have := key2 e3; omega

set_option maxHeartbeats 1000000 in
theorem evI_still {Y : Ty} (hY : TyOk P Y) {o : Oper} {i : IOp} (hc : cOp Y o.op = some i) (hst : stillO i = true) {fr : Fr} {h : H} {k : KV} {e : Nat} (hr : evI i fr h k e = 0) (he : e ≠ 0)
    {ρ : Rho} {n : Nat} {a : Act} (hn : h.n.toNat ≤ n) (hf : FrOk E ρ n fr a.tmps) (hs : Sat E ρ h w) : ∃ v, (execOp a.eval o).run P w = .ok (.value (v.γ E ρ)) w ∧ v.bd n ∧ k v h = 0 := by
  obtain ⟨dst, op, ty, pos, aft, gd⟩ := o
  simp only at hc
  cases op <;> simp only [cOp] at hc
  case move x =>
    obtain ⟨x', hx, rfl⟩ := map1_some hc
    obtain ⟨v, hv, hk⟩ := oc_ok hr he
    obtain ⟨h1, h2⟩ := od_run hf hx hv
    exact ⟨v, by simp [execOp, h1], h2, hk⟩
  case assign x =>
    obtain ⟨x', hx, rfl⟩ := map1_some hc
    obtain ⟨v, hv, hk⟩ := oc_ok hr he
    obtain ⟨h1, h2⟩ := od_run hf hx hv
    exact ⟨v, by simp [execOp, h1], h2, hk⟩
  case pick x y z =>
    split at hc
    · rename_i x' y' z' hx hy hz
      simp at hc; subst hc
      have hr : ePick x' y' z' fr h k e = 0 := hr
      unfold ePick at hr
      split at hr
      · rename_i hb
        obtain ⟨h0, _⟩ := od_run hf hx hb
        obtain ⟨v, hv, hk⟩ := oc_ok hr he
        obtain ⟨h1, h2⟩ := od_run hf hy hv
        exact ⟨v, by simp [execOp, h0, h1, V.γ, asBool], h2, hk⟩
      · rename_i hb
        obtain ⟨h0, _⟩ := od_run hf hx hb
        obtain ⟨v, hv, hk⟩ := oc_ok hr he
        obtain ⟨h1, h2⟩ := od_run hf hz hv
        exact ⟨v, by simp [execOp, h0, h1, V.γ, asBool], h2, hk⟩
      · exact absurd hr he
    · simp at hc
  case alloc t => split at hc <;> simp at hc; subst hc; simp [stillO, IOp.go] at hst
  case box t x => obtain ⟨x', hx, rfl⟩ := map1_some hc; simp [stillO, IOp.go] at hst
  case build t ps =>
    split at hc
    · rename_i fs z ht
      split at hc
      · rename_i ps' hps
        simp at hc; subst hc
        obtain ⟨l, hl, hk⟩ := oc_ok hr he
        obtain ⟨fl, hu, hfs, hfl, hty, hsz, hg⟩ := ti_str hY.ti ht
        obtain ⟨x, hx, hxz⟩ := ti_str_zero hY.ti ht
        obtain ⟨i, hi, hiz, _⟩ := zero_info (E := E) hx ρ
        have hzb : bdL n z := by rw [← hxz]; exact cells_bd (bd_mono (Nat.zero_le _) _ (zeroOf_run (E := E) (w := w) hx ρ).2)
        obtain ⟨h1, h2⟩ := fillP_run hf fs ((fl.toList.map fun f => (f.offset, sizeP P f.type)).toArray[·]?) (fun i o s g hq => by
          rw [hfs] at hq
          obtain ⟨f, hf1, hf2, hf3, _⟩ := fieldsOf_get _ _ _ _ _ hq
          have hf1 : fl[i]? = some f := by simpa using hf1
          simp [hf1, hf2, hf3]) ps.toList ps' z l hps hl hzb
        refine ⟨.agg l, ?_, h2, hk⟩
        have hb : P.built t (ps.toList.map fun (i, x) => (i, a.eval x)) = some (γL E ρ l).toArray := by
          have hm := fields_mapM fl.toList hfl
          have h1' := h1
          rw [show (γL E ρ z).toArray = (x.γ E ρ).cells from by rw [cells_γ, hxz]] at h1'
          simp only [Program.built, hi, hu, hiz, hm, h1']
        have hrun := run_build w t (ps.map fun (i, x) => (i, a.eval x)) (γL E ρ l).toArray (by simpa using hb)
        simp [execOp, hrun, V.γ]
      · simp at hc
    · rename_i m e1 s g z ht
      split at hc
      · rename_i ps' hps
        simp at hc; subst hc
        obtain ⟨l, hl, hk⟩ := oc_ok hr he
        obtain ⟨hu, htye, hse, _, hty, hsz, hg⟩ := ti_arr hY.ti ht
        obtain ⟨x, hx, hxz⟩ := ti_arr_zero hY.ti ht
        obtain ⟨i, hi, hiz, _⟩ := zero_info (E := E) hx ρ
        obtain ⟨ie, hie, hies⟩ := isTy_info htye
        have hzb : bdL n z := by rw [← hxz]; exact cells_bd (bd_mono (Nat.zero_le _) _ (zeroOf_run (E := E) (w := w) hx ρ).2)
        obtain ⟨h1, h2⟩ := fillE_run hf s (fun i => some (i * ie.size, ie.size)) (fun i => by rw [hies, hse]) ps.toList ps' z l hps hl hzb
        refine ⟨.agg l, ?_, h2, hk⟩
        have hb : P.built t (ps.toList.map fun (i, x) => (i, a.eval x)) = some (γL E ρ l).toArray := by
          have h1' := h1
          rw [show (γL E ρ z).toArray = (x.γ E ρ).cells from by rw [cells_γ, hxz]] at h1'
          simp only [Program.built, hi, hu, hiz, hie, h1']
        have hrun := run_build w t (ps.map fun (i, x) => (i, a.eval x)) (γL E ρ l).toArray (by simpa using hb)
        simp [execOp, hrun, V.γ]
      · simp at hc
    · simp at hc
  case buildSlice t m ps =>
    split at hc
    · split at hc
      · split at hc
        · simp at hc; subst hc; simp [stillO, IOp.go] at hst
        · simp at hc
      · simp at hc
    · simp at hc
  case load t x =>
    have one : is1 (Y.ti t) = true → map1 .ld x = some i → ∃ v, (execOp a.eval ⟨dst, .load t x, ty, pos, aft, gd⟩).run P w = .ok (.value (v.γ E ρ)) w ∧ v.bd n ∧ k v h = 0 := by
      intro h1 hc
      obtain ⟨x', hx, rfl⟩ := map1_some hc
      obtain ⟨id, off, hp, hr⟩ := vPtr_ok hr he
      obtain ⟨oo, ho, hr⟩ := oc_ok hr he
      obtain ⟨v, hv, hk⟩ := oc_ok hr he
      rw [hget_eq] at ho
      obtain ⟨h2, h3⟩ := od_run hf hx hp
      obtain ⟨cs, tt, hb, hcell⟩ := O.block (hs.obj id oo ho) (hs.bd id oo ho).2 (cellAt_live hv)
      obtain ⟨h4, h5⟩ := hcell off v hv
      have hd : ∃ d, P.underlying t = some d ∧ isAggD d = false := by
        cases hti : Y.ti t with
        | scal z kk => obtain ⟨d, hu, hd, _⟩ := ti_scal hY.ti hti; exact ⟨d, hu, hd⟩
        | slc e1 s1 b1 z => obtain ⟨hu, _⟩ := ti_slc hY.ti hti; exact ⟨_, hu, rfl⟩
        | str => rw [hti] at h1; simp [is1] at h1
        | arr => rw [hti] at h1; simp [is1] at h1
        | none => rw [hti] at h1; simp [is1] at h1
      obtain ⟨d, hu, hd⟩ := hd
      refine ⟨v, ?_, bd_mono hn v h5, hk⟩
      simp [execOp, h2, V.γ, Instr.loadAt, Instr.sureAddr, loadVar_one hu hd (by rw [cell_at hb]; exact h4)]
    have many : ∀ m, map1 (.ldn m) x = some i → isTy P t = true → aggP P t = true → m = sizeP P t → ∃ v, (execOp a.eval ⟨dst, .load t x, ty, pos, aft, gd⟩).run P w = .ok (.value (v.γ E ρ)) w ∧ v.bd n ∧ k v h = 0 := by
      intro m hc hty hg hm
      obtain ⟨x', hx, rfl⟩ := map1_some hc
      obtain ⟨id, off, hp, hr⟩ := vPtr_ok hr he
      obtain ⟨oo, ho, hr⟩ := oc_ok hr he
      obtain ⟨l, hl, hk⟩ := oc_ok hr he
      rw [hget_eq] at ho
      obtain ⟨h2, h3⟩ := od_run hf hx hp
      obtain ⟨h6, h7⟩ := loadN_get hl
      by_cases hm0 : m = 0
      · subst hm0
        have : l = [] := List.length_eq_zero_iff.1 h6
        subst this
        refine ⟨.agg [], ?_, trivial, hk⟩
        obtain ⟨g1, g2⟩ := isTy_run (w := w) hty
        simp [execOp, h2, V.γ, γL, Instr.loadAt, Instr.sureAddr, loadVar, g2, hg, g1, ← hm, loadCells, loadCellsFrom]
      have hlive : oo.live = true := cellAt_live (v := l[0]'(by omega)) (i := off + 0) (by rw [h7 0 (by omega)]; simp)
      obtain ⟨cs, tt, hb, hcell⟩ := O.block (hs.obj id oo ho) (hs.bd id oo ho).2 hlive
      have hall : ∀ j (hj : j < l.length), cs[off + j]? = some (l[j].γ E ρ) ∧ l[j].bd h.n.toNat := fun j hj => hcell (off + j) l[j] (by rw [h7 j (by omega)]; simp [hj])
      refine ⟨.agg l, ?_, ?_, hk⟩
      · have := loadVar_many2 (w := w) hty hg (b := (ρ id).b) (o := off) (vs := γL E ρ l) hb (by rw [γL_length, h6, hm]) (fun j hj => by
          rw [γL_length] at hj
          rw [(hall j hj).1, γL_get]; simp [hj])
        simp [execOp, h2, V.γ, Instr.loadAt, Instr.sureAddr, this]
      · show bdL n l
        rw [bdL_eq]
        intro v hv
        obtain ⟨j, hj, rfl⟩ := List.mem_iff_getElem.1 hv
        exact bd_mono hn _ (hall j hj).2
    split at hc
    · rename_i fs z ht
      obtain ⟨fl, hu, _, _, hty, hsz, hg⟩ := ti_str hY.ti ht
      exact many _ hc hty hg (by rw [len_eq, hsz])
    · rename_i m e1 s1 g z ht
      obtain ⟨hu, _, _, _, hty, hsz, hg⟩ := ti_arr hY.ti ht
      exact many _ hc hty hg (by rw [len_eq, hsz])
    · rename_i z kk ht; exact one (by rw [ht]; rfl) hc
    · rename_i e1 s1 b1 z ht; exact one (by rw [ht]; rfl) hc
    · simp at hc
  case store t x y =>
    split at hc
    · obtain ⟨x', y', _, _, rfl⟩ := map2_some hc; simp [stillO, IOp.go] at hst
    · simp at hc
  case nilCheck x =>
    obtain ⟨x', hx, rfl⟩ := map1_some hc
    obtain ⟨id, off, hp, hk⟩ := vPtr_ok hr he
    obtain ⟨h1, h2⟩ := od_run hf hx hp
    exact ⟨.ptr id off, by simp [execOp, h1, V.γ], h2, hk⟩
  case binOp op t x y t2 =>
    split at hc
    · rename_i q hq
      obtain ⟨x', y', hx, hy, rfl⟩ := map2_some hc
      obtain ⟨u, hu, hr⟩ := oc_ok hr he
      obtain ⟨u2, hu2, hr⟩ := oc_ok hr he
      obtain ⟨v, hv, hk⟩ := oc_ok hr he
      obtain ⟨h1, h2⟩ := od_run hf hx hu
      obtain ⟨h3, h4⟩ := od_run hf hy hu2
      obtain ⟨h5, h6⟩ := binV_run (E := E) (w := w) hY hq hv ρ
      have h9 := eqGuard_run (P := P) (w := w) (op := op) (t := t) (x := x) (y := y) (b := u2.γ E ρ) (bin_guard (E := E) hY hq hv ρ) (γ_not ρ u)
      exact ⟨v, by simp [execOp, h1, h3, h9, h5], bd_mono (Nat.zero_le _) _ h6, hk⟩
    · simp at hc
  case unOp op t x =>
    split at hc
    · obtain ⟨x', hx, rfl⟩ := map1_some hc
      have hr : eNot x' fr h k e = 0 := hr
      unfold eNot at hr
      split at hr
      · rename_i b hb
        obtain ⟨h1, _⟩ := od_run hf hx hb
        refine ⟨_, ?_, ?_, hr⟩ <;> first | exact trivial | simp [execOp, h1, V.γ, Op.unary]
      · rename_i b hb
        obtain ⟨h1, _⟩ := od_run hf hx hb
        refine ⟨_, ?_, ?_, hr⟩ <;> first | exact trivial | simp [execOp, h1, V.γ, Op.unary, SB.den]
      · exact absurd hr he
    · obtain ⟨x', hx, rfl⟩ := map1_some hc
      have hr : eNeg x' fr h k e = 0 := hr
      unfold eNeg at hr
      split at hr
      · rename_i b hb
        obtain ⟨h1, _⟩ := od_run hf hx hb
        refine ⟨_, ?_, ?_, hr⟩ <;> first | exact trivial | simp [execOp, h1, V.γ, Op.unary, Op.intArith, fSub_eq]
      · rename_i b hb
        obtain ⟨h1, _⟩ := od_run hf hx hb
        refine ⟨_, ?_, ?_, hr⟩ <;> first | exact trivial | simp [execOp, h1, V.γ, Op.unary, Op.intArith, mkE, smart, SE.den, arS, arI, wrapF_eq]
      · exact absurd hr he
    · simp at hc
  case convert s d x =>
    split at hc
    · rename_i z1 k1 z2 k2 h1 h2
      obtain ⟨x', hx, rfl⟩ := map1_some hc
      obtain ⟨d1, hd1, _, hk1⟩ := ti_scal hY.ti h1
      obtain ⟨d2, hd2, _, hk2⟩ := ti_scal hY.ti h2
      have hd1 : P.underlying s = some (.int k1) := by rw [hd1, scal_int hk1]
      have hd2 : P.underlying d = some (.int k2) := by rw [hd2, scal_int hk2]
      have run : ∀ k0 m, (convert s d (.int k0 m)).run P w = .ok (.int k2 (k2.wrap m)) w := by
        intro k0 m
        simp [convert, run_underlying hd1, run_underlying hd2, Conv.intToInt]
      have hr : eCv k2 x' fr h k e = 0 := hr
      unfold eCv at hr
      split at hr
      · rename_i k0 m hb
        obtain ⟨h1, _⟩ := od_run hf hx hb
        refine ⟨_, ?_, ?_, hr⟩ <;> first | exact trivial | simp [execOp, h1, V.γ, run, wrapF_eq]
      · rename_i k0 m hb
        obtain ⟨h1, _⟩ := od_run hf hx hb
        refine ⟨_, ?_, ?_, hr⟩ <;> first | exact trivial | simp [execOp, h1, V.γ, run, SE.den]
      · exact absurd hr he
    · simp at hc
  case makeFunc f first caps =>
    split at hc
    · rename_i F p l hp hl
      simp at hc; subst hc
      have hr : eMkf F p l fr h k e = 0 := hr
      unfold eMkf at hr
      split at hr
      · rename_i vp vl h1 h2
        obtain ⟨e1, b1⟩ := ods_run hf hp h1
        obtain ⟨e2, b2⟩ := ods_run hf hl h2
        have e1' : first.map a.eval = (γL E ρ vp).toArray := Array.toList_inj.1 (by rw [Array.toList_map]; exact e1)
        have e2' : caps.map a.eval = (γL E ρ vl).toArray := Array.toList_inj.1 (by rw [Array.toList_map]; exact e2)
        refine ⟨_, ?_, ?_, hr⟩ <;> first | exact ⟨b1, b2⟩ | simp [execOp, Instr.makeFunc, V.γ, e1', e2']
      · exact absurd hr he
    · simp at hc
  case fieldAddr t x f =>
    split at hc
    · rename_i fs z ht
      split at hc
      · rename_i o1 sz g hq
        split at hc
        · simp at hc
        · rename_i hz
          obtain ⟨x', hx, rfl⟩ := map1_some hc
          obtain ⟨id, off, hp, hk⟩ := vPtr_ok hr he
          obtain ⟨h1, h2⟩ := od_run hf hx hp
          obtain ⟨fl, hu, hfs, hfl, _⟩ := ti_str hY.ti ht
          rw [nth_eq, hfs] at hq
          obtain ⟨fd, hf1, hf2, hf3, _⟩ := fieldsOf_get _ _ _ _ _ hq
          obtain ⟨h5, _⟩ := isTy_run (w := w) (hfl fd (List.mem_of_getElem? hf1))
          have hf1 : fl[f]? = some fd := by simpa using hf1
          have hz : ¬ sz = 0 := by simpa using hz
          refine ⟨.ptr id (Nat.add off o1), ?_, h2, hk⟩
          simp [execOp, h1, V.γ, Instr.fieldAt, run_underlying hu, hf1, Instr.sureAddr, fieldPlace, h5, hf3, hz, hf2, addr_add]
      · simp at hc
    · simp at hc
  case field t x f =>
    split at hc
    · rename_i fs z ht
      split at hc
      · rename_i o1 sz g hq
        obtain ⟨x', hx, rfl⟩ := map1_some hc
        obtain ⟨l, hl, hr⟩ := vAgg_ok hr he
        obtain ⟨v, hv, hk⟩ := oc_ok hr he
        obtain ⟨h1, h2⟩ := od_run hf hx hl
        obtain ⟨fl, hu, hfs, hfl, _⟩ := ti_str hY.ti ht
        rw [nth_eq, hfs] at hq
        obtain ⟨fd, hf1, hf2, hf3, hf4⟩ := fieldsOf_get _ _ _ _ _ hq
        obtain ⟨h5, h6⟩ := part_ok (E := E) (w := w) (hfl fd (List.mem_of_getElem? hf1)) hf3 hf4 hv ρ
        have hf1 : fl[f]? = some fd := by simpa using hf1
        refine ⟨v, ?_, h6 _ h2, hk⟩
        simp [execOp, h1, V.γ, Instr.field, run_underlying hu, hf1, asAgg, hf2, h5]
      · simp at hc
    · simp at hc
  case indexAddr t x j =>
    split at hc
    · rename_i m e1 esz g z ht
      obtain ⟨x', j', hx, hj, rfl⟩ := map2_some hc
      obtain ⟨id, off, hp, hr⟩ := vPtr_ok hr he
      obtain ⟨kk, jj, hjj, hr⟩ := vLit_ok hr he
      obtain ⟨m2, hm2, hk⟩ := oc_ok hr he
      obtain ⟨rfl, hlt⟩ := inI_ok hm2
      obtain ⟨h1, h2⟩ := od_run hf hx hp
      obtain ⟨h3, _⟩ := od_run hf hj hjj
      obtain ⟨hu, hty, hsz, _⟩ := ti_arr hY.ti ht
      obtain ⟨h4, _⟩ := isTy_run (w := w) hty
      refine ⟨.ptr id (Nat.add off (Nat.mul m2 esz)), ?_, h2, hk⟩
      simp [execOp, h1, h3, V.γ, Instr.indexAt, asIntOf, run_underlying hu, Instr.sureAddr, h4, hsz, hlt, addr_add]
    · rename_i e1 esz by1 z ht
      obtain ⟨x', j', hx, hj, rfl⟩ := map2_some hc
      obtain ⟨v, id, off, m, hp, hr, hγ, hbd⟩ := vSl_ok hr he
      obtain ⟨kk, jj, hjj, hr⟩ := vLit_ok hr he
      obtain ⟨m2, hm2, hk⟩ := oc_ok hr he
      obtain ⟨rfl, hlt⟩ := inI_ok hm2
      obtain ⟨h1, h2⟩ := od_run hf hx hp
      obtain ⟨h3, _⟩ := od_run hf hj hjj
      obtain ⟨c, hγ⟩ := hγ E ρ
      rw [hγ] at h1
      obtain ⟨hu, hty, hsz, _⟩ := ti_slc hY.ti ht
      obtain ⟨h4, _⟩ := isTy_run (w := w) hty
      refine ⟨.ptr id (Nat.add off (Nat.mul m2 esz)), ?_, hbd _ h2, hk⟩
      simp [execOp, h1, h3, V.γ, Instr.indexAt, asIntOf, run_underlying hu, h4, hsz, hlt, addr_add]
    · simp at hc
  case index t x j =>
    split at hc
    · rename_i m e1 esz g z ht
      obtain ⟨x', j', hx, hj, rfl⟩ := map2_some hc
      obtain ⟨l, hl, hr⟩ := vAgg_ok hr he
      obtain ⟨kk, jj, hjj, hr⟩ := vLit_ok hr he
      obtain ⟨m2, hm2, hr⟩ := oc_ok hr he
      obtain ⟨v, hv, hk⟩ := oc_ok hr he
      obtain ⟨rfl, hlt⟩ := inI_ok hm2
      obtain ⟨h1, h2⟩ := od_run hf hx hl
      obtain ⟨h3, _⟩ := od_run hf hj hjj
      obtain ⟨hu, hty, hsz, hg, _⟩ := ti_arr hY.ti ht
      obtain ⟨h5, h6⟩ := part_ok (E := E) (w := w) hty hsz hg hv ρ
      obtain ⟨h7, _⟩ := isTy_run (w := w) hty
      refine ⟨v, ?_, h6 _ h2, hk⟩
      rw [← hsz] at h5
      have h5 : (Go.part e1 (γL E ρ l).toArray (m2 * sizeP P e1)).run P w = .ok (v.γ E ρ) w := h5
      simp [execOp, h1, h3, V.γ, Instr.index, asIntOf, run_underlying hu, hlt, h7, h5]
    · simp at hc
  case extract x j =>
    split at hc
    · rename_i x' hx
      simp at hc; subst hc
      obtain ⟨l, hl, hr⟩ := vTup_ok hr he
      obtain ⟨v, hv, hk⟩ := oc_ok hr he
      obtain ⟨h1, h2⟩ := od_run hf hx hl
      rw [nth_eq] at hv
      have h3 : (γL E ρ l)[j]? = some (v.γ E ρ) := by rw [γL_get, hv]; rfl
      refine ⟨v, ?_, (bdL_eq _ l).1 h2 v (List.mem_of_getElem? hv), hk⟩
      simp [execOp, h1, V.γ, Instr.extract, h3]
    · simp at hc
  case makeSlice t l c =>
    split at hc
    · obtain ⟨x', y', _, _, rfl⟩ := map2_some hc; simp [stillO, IOp.go] at hst
    · simp at hc
  case slice t x lo hi mx =>
    split at hc
    · rename_i x' lo' hi' mx' hx hlo hhi hmx
      have vals : ∀ {o : Option Operand} {o' : Option Od} {v : Option V}, cOdO o = some o' → odO fr o' = some v → o.map a.eval = v.map (V.γ E ρ) := by
        intro o o' v h1 h2
        cases o with
        | none =>
          simp [cOdO] at h1; subst h1
          simp [odO] at h2; subst h2; rfl
        | some y =>
          simp only [cOdO] at h1
          split at h1
          · rename_i y' hy
            simp at h1; subst h1
            simp only [odO, Option.map_eq_some_iff] at h2
            obtain ⟨u, hu, rfl⟩ := h2
            obtain ⟨h3, _⟩ := od_run hf hy hu
            simp [h3]
          · simp at h1
      split at hc
      · rename_i e1 esz by1 z ht
        simp at hc; subst hc
        obtain ⟨hu, hty, hsz, _⟩ := ti_slc hY.ti ht
        obtain ⟨h4, _⟩ := isTy_run (w := w) hty
        have hr : eSlc esz x' lo' hi' mx' fr h k e = 0 := hr
        unfold eSlc at hr
        split at hr
        · rename_i v1 v2 v3 v4 g1 g2 g3 g4
          obtain ⟨h1, h2⟩ := od_run hf hx g1
          have b2 := vals hlo g2
          have b3 := vals hhi g3
          have b4 := vals hmx g4
          split at hr
          · rename_i i2 i3 i4 l2 l3 l4
            split at hr
            · rename_i id off m c
              split at hr
              · rename_i l r mm hb
                have hB := bnds_run (E := E) (P := P) (w := w) l2 l3 l4 hb true ρ
                refine ⟨_, ?_, ?_, hr⟩
                · simp only [execOp, h1, b2, b3, b4, V.γ, Instr.sliceAt, Instr.slice, Sem.run_bind, run_underlying hu, Result.andThen_ok, hB, h4, hsz]
                  rw [bc_eq]
                  by_cases hml : mm = l
                  · simp [hml]
                  · have : Nat.beq mm l = false := by
                      cases hbb : Nat.beq mm l with
                      | false => rfl
                      | true => exact absurd (Nat.eq_of_beq_eq_true hbb) hml
                    simp [this, hml, addr_add]
                · exact h2
              · exact absurd hr he
            · split at hr
              · rename_i p hb
                obtain ⟨l, r, mm⟩ := p
                have hB := bnds_run (E := E) (P := P) (w := w) l2 l3 l4 hb true ρ
                have hz := bnds_zero hb
                obtain ⟨rfl, rfl, rfl⟩ := hz
                refine ⟨_, ?_, ?_, hr⟩
                · simp only [execOp, h1, b2, b3, b4, V.γ, Instr.sliceAt, Instr.slice, Sem.run_bind, run_underlying hu, Result.andThen_ok, hB, h4, hsz]
                  simp
                · trivial
              · exact absurd hr he
            · exact absurd hr he
          · exact absurd hr he
        · exact absurd hr he
      · rename_i m e1 esz g z ht
        simp at hc; subst hc
        obtain ⟨hu, hty, hsz, _⟩ := ti_arr hY.ti ht
        obtain ⟨h4, _⟩ := isTy_run (w := w) hty
        have hr : eSla m esz x' lo' hi' mx' fr h k e = 0 := hr
        unfold eSla at hr
        split at hr
        · rename_i id off v2 v3 v4 g1 g2 g3 g4
          obtain ⟨h1, h2⟩ := od_run hf hx g1
          have b2 := vals hlo g2
          have b3 := vals hhi g3
          have b4 := vals hmx g4
          split at hr
          · rename_i i2 i3 i4 l2 l3 l4
            split at hr
            · rename_i l r mm hb
              have hB := bnds_run (E := E) (P := P) (w := w) l2 l3 l4 hb false ρ
              refine ⟨_, ?_, ?_, hr⟩
              · simp only [execOp, h1, b2, b3, b4, V.γ, Instr.sliceAt, Instr.sureAddr, Sem.run_bind, run_underlying hu, Result.andThen_ok, Sem.run_pure, hB, h4, hsz]
                rw [bc_eq]
                by_cases hml : mm = l
                · simp [hml]
                · have : Nat.beq mm l = false := by
                    cases hbb : Nat.beq mm l with
                    | false => rfl
                    | true => exact absurd (Nat.eq_of_beq_eq_true hbb) hml
                  simp [this, hml, addr_add]
              · exact h2
            · exact absurd hr he
          · exact absurd hr he
        · exact absurd hr he
      · simp at hc
    · simp at hc
  case call cl =>
    split at hc
    · simp at hc
    · rename_i b hcal
      split at hc
      · rename_i t x hty hxs
        have harg : cl.args.map a.eval = #[a.eval x] := Array.toList_inj.1 (by rw [Array.toList_map, hxs]; rfl)
        have hty0 : cl.argTypes[0]? = some t := by
          have : cl.argTypes.toList[0]? = some t := by rw [hty]; rfl
          simpa using this
        have hrun : ∀ r, (Builtin.len_ cl.argTypes ty #[a.eval x]).run P w = .ok r w → (execOp a.eval ⟨dst, .call cl, ty, pos, aft, gd⟩).run P w = .ok (.value r) w := by
          intro r hr
          simp [execOp, resolve, hcal, invoke, builtin, harg, hr]
        split at hc
        · rename_i e1 esz by1 z ht
          obtain ⟨x', hx, rfl⟩ := map1_some hc
          obtain ⟨hu, _⟩ := ti_slc hY.ti ht
          have hr : eLens x' fr h k e = 0 := hr
          unfold eLens at hr
          split at hr
          · rename_i g1
            obtain ⟨h1, _⟩ := od_run hf hx g1
            refine ⟨_, hrun _ ?_, ?_, hr⟩
            · simp [Builtin.len_, hty0, h1, V.γ, run_underlying hu, goInt]
            · trivial
          · rename_i g1
            obtain ⟨h1, _⟩ := od_run hf hx g1
            refine ⟨_, hrun _ ?_, ?_, hr⟩
            · simp [Builtin.len_, hty0, h1, V.γ, run_underlying hu, goInt]
            · trivial
          · rename_i g1
            obtain ⟨h1, _⟩ := od_run hf hx g1
            refine ⟨_, hrun _ ?_, ?_, hr⟩
            · simp [Builtin.len_, hty0, h1, V.γ, run_underlying hu, goInt]
            · trivial
          · exact absurd hr he
        · rename_i m e1 esz g z ht
          simp at hc; subst hc
          obtain ⟨hu, _⟩ := ti_arr hY.ti ht
          have hr : k (.i .i64 m) h = 0 := hr
          refine ⟨_, hrun _ ?_, ?_, hr⟩
          · simp [Builtin.len_, hty0, V.γ, run_underlying hu, goInt]
          · trivial
        · simp at hc
      · rename_i x y hxs
        obtain ⟨x', y', hx, hy, rfl⟩ := map2_some hc
        have harg : cl.args.map a.eval = #[a.eval x, a.eval y] := Array.toList_inj.1 (by rw [Array.toList_map, hxs]; rfl)
        have hr : eMmx true x' y' fr h k e = 0 := hr
        unfold eMmx at hr
        split at hr
        · rename_i t1 p t2 q g1 g2
          obtain ⟨h1, _⟩ := od_run hf hx g1
          obtain ⟨h2, _⟩ := od_run hf hy g2
          refine ⟨_, ?_, ?_, hr⟩
          · by_cases hpq : p < q <;> simp [execOp, resolve, hcal, invoke, builtin, harg, Builtin.max_, Builtin.max2, h1, h2, V.γ, iLt_eq, hpq]
          · trivial
        · rename_i x1 y1 _ g1 g2
          obtain ⟨v, hv, hr⟩ := oc_ok hr he
          obtain ⟨h1, _⟩ := od_run hf hx g1
          obtain ⟨h2, _⟩ := od_run hf hy g2
          obtain ⟨t, p, q, e1, e2, rfl⟩ := mmS_ok hv
          refine ⟨_, ?_, ?_, hr⟩
          · by_cases hpq : p.den E < q.den E <;> simp [execOp, resolve, hcal, invoke, builtin, harg, Builtin.max_, Builtin.max2, h1, h2, e1 E ρ, e2 E ρ, V.γ, SE.den, hpq]
          · trivial
        · exact absurd hr he
      · rename_i x y hxs
        obtain ⟨x', y', hx, hy, rfl⟩ := map2_some hc
        have harg : cl.args.map a.eval = #[a.eval x, a.eval y] := Array.toList_inj.1 (by rw [Array.toList_map, hxs]; rfl)
        have hr : eMmx false x' y' fr h k e = 0 := hr
        unfold eMmx at hr
        split at hr
        · rename_i t1 p t2 q g1 g2
          obtain ⟨h1, _⟩ := od_run hf hx g1
          obtain ⟨h2, _⟩ := od_run hf hy g2
          refine ⟨_, ?_, ?_, hr⟩
          · by_cases hpq : q < p <;> simp [execOp, resolve, hcal, invoke, builtin, harg, Builtin.min_, Builtin.min2, h1, h2, V.γ, iLt_eq, hpq]
          · trivial
        · rename_i x1 y1 _ g1 g2
          obtain ⟨v, hv, hr⟩ := oc_ok hr he
          obtain ⟨h1, _⟩ := od_run hf hx g1
          obtain ⟨h2, _⟩ := od_run hf hy g2
          obtain ⟨t, p, q, e1, e2, rfl⟩ := mmS_ok hv
          refine ⟨_, ?_, ?_, hr⟩
          · by_cases hpq : q.den E < p.den E <;> simp [execOp, resolve, hcal, invoke, builtin, harg, Builtin.min_, Builtin.min2, h1, h2, e1 E ρ, e2 E ρ, V.γ, SE.den, hpq]
          · trivial
        · exact absurd hr he
      · split at hc
        · split at hc
          · obtain ⟨x', y', _, _, rfl⟩ := map2_some hc; simp [stillO, IOp.go] at hst
          · simp at hc
        · simp at hc
      · split at hc
        · split at hc
          · obtain ⟨x', y', _, _, rfl⟩ := map2_some hc; simp [stillO, IOp.go] at hst
          · simp at hc
        · simp at hc
      · simp at hc
    · simp at hc
  all_goals simp at hc
end Go.Ev
end
