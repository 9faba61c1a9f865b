/-
  Calls: the evaluator is right.
-/
import Derived.Test.YtapeacnagpphjaaGreatEvO
set_option linter.unusedSimpArgs false
set_option linter.unusedVariables false
noncomputable section
namespace Go.Ev
open Go
variable {E : Env} {P : Program} {N : Nat}
def resS (tmps : Array Value) : ResultVar → Sem Value
  | .tmp t => pure (tmps.getD t undef)
  | .cell a t => do loadVar t (← asAddr (tmps.getD a undef))
/-- what is said of a result -/
def ROk (P : Program) (r : ResultVar) (x : IR) : Prop := ∀ (E : Env) (ρ : Rho) (fr : Fr) (h : H) (w : World) (tmps : Array Value) (v : V), Sat E ρ h w → FrOk E ρ h.n.toNat fr tmps → resV fr h x = some v → (resS tmps r).run P w = .ok (v.γ E ρ) w ∧ v.bd h.n.toNat
theorem ocO_some {α β : Type} {x : Option α} {f : α → Option β} {v : β} (h : oc x f none = some v) : ∃ a, x = some a ∧ f a = some v := by
  cases x with
  | none => cases h
  | some a => exact ⟨a, rfl, h⟩
theorem vPtrO_some {β : Type} {x : Option V} {f : Ev.P → Nat → Option β} {v : β} (h : vPtr x f none = some v) : ∃ id off, x = some (.ptr id off) ∧ f id off = some v := by
  unfold vPtr at h
  split at h
  · exact ⟨_, _, rfl, h⟩
  · cases h
theorem cells_load {ρ : Rho} {h : H} {w : World} (hs : Sat E ρ h w) {id : Ev.P} {o : O} (ho : h.t.get id = some o) {off : Nat} {v : V} (hc : cellAt o off = some v) :
    ∃ cs t, w.heap[(ρ id).b]? = some (.cells cs t (0, 0)) ∧ cs[off]? = some (v.γ E ρ) ∧ v.bd h.n.toNat := by
  obtain ⟨cs, tt, hb, hcell⟩ := O.block (hs.obj id o ho) (hs.bd id o ho).2 (cellAt_live hc)
  obtain ⟨h1, h2⟩ := hcell off v hc
  exact ⟨cs, tt, hb, h1, h2⟩
theorem initFr_eq : ∀ (l : List V) (i : Nat) (fr : Fr) (k : Fr → Nat), lRec initN initC l i fr k = 0 → ∃ fr', k fr' = 0 ∧ ∀ q v, fr'.get q = some v → fr.get q = some v ∨ ∃ j, q = keyOf (i + j) ∧ l[j]? = some v
  | [], i, fr, k, hk => ⟨fr, hk, fun q v h => .inl h⟩
  | x :: r, i, fr, k, hk => by
    have hk : setF (keyOf i) fr x (fun fr => lRec initN initC r (Nat.succ i) fr k) = 0 := hk
    obtain ⟨fr1, hk, g1, g2⟩ := setF_ok hk
    obtain ⟨fr', h1, h2⟩ := initFr_eq r (i + 1) fr1 k hk
    refine ⟨fr', h1, fun q v hv => ?_⟩
    rcases h2 q v hv with h3 | ⟨j, h3, h4⟩
    · by_cases hq : q = keyOf i
      · rw [hq, g1] at h3
        exact .inr ⟨0, hq, by simpa using h3⟩
      · rw [g2 q hq] at h3
        exact .inl h3
    · exact .inr ⟨j + 1, by rw [h3]; congr 1; omega, by simpa using h4⟩
theorem initFr_ok {l : List V} {k : Fr → Nat} (hk : initFr l k = 0) : ∃ fr, k fr = 0 ∧ ∀ t v, fr.get (keyOf t) = some v → l[t]? = some v := by
  obtain ⟨fr, h1, h2⟩ := initFr_eq l 0 .e k hk
  refine ⟨fr, h1, fun t v hv => ?_⟩
  rcases h2 _ v hv with h3 | ⟨j, h3, h4⟩
  · rw [Fr.get_e] at h3; simp at h3
  · have := key_inj h3
    have : t = j := by omega
    subst this; exact h4
theorem res1_run {Y : Ty} (hY : TyOk P Y) {r : ResultVar} {rs : List ResultVar} {l : List IR} (h : cRes Y (r :: rs) = some l) : ∃ x l', l = x :: l' ∧ cRes Y rs = some l' ∧ ROk P r x := by
  simp only [cRes] at h
  split at h
  rotate_left
  · simp at h
  rename_i l' hl'
  split at h
  · rename_i t
    simp at h; subst h
    refine ⟨_, _, rfl, hl', fun E ρ fr h w tmps v hs hf hv => ?_⟩
    obtain ⟨h1, h2⟩ := hf t v hv
    exact ⟨by simp [resS, h1], h2⟩
  · rename_i a t
    have one : (∃ d, P.underlying t = some d ∧ isAggD d = false) → ROk P (.cell a t) (.c1 (keyOf a)) := by
      rintro ⟨d, hu, hd⟩ E ρ fr h w tmps v hs hf hv
      obtain ⟨id, off, hp, hv⟩ := vPtrO_some (show vPtr (fr.get (keyOf a)) (fun id off => oc (hget h id) (fun o => cellAt o off) none) none = some v from hv)
      obtain ⟨o, ho, hv⟩ := ocO_some hv
      rw [hget_eq] at ho
      obtain ⟨h1, h2⟩ := hf a _ hp
      obtain ⟨cs, tt, hb, hcell, hbd⟩ := cells_load hs ho hv
      refine ⟨?_, hbd⟩
      have := loadVar_one (P := P) (w := w) hu hd (b := (ρ id).b) (o := off) (v := v.γ E ρ) (by rw [cell_at hb]; exact hcell)
      simp [resS, h1, V.γ, asAddr, this]
    have many : isTy P t = true → aggP P t = true → ∀ m, m = sizeP P t → ROk P (.cell a t) (.cn m (keyOf a)) := by
      intro hty hg m hm E ρ fr h w tmps v hs hf hv
      obtain ⟨id, off, hp, hv⟩ := vPtrO_some (show vPtr (fr.get (keyOf a)) (fun id off => oc (hget h id) (fun o => (loadN o off m).map .agg) none) none = some v from hv)
      obtain ⟨o, ho, hv⟩ := ocO_some hv
      rw [hget_eq] at ho
      obtain ⟨l, hl, rfl⟩ := Option.map_eq_some_iff.1 hv
      obtain ⟨h1, h2⟩ := hf a _ hp
      obtain ⟨hlen, hbd, hcell⟩ := load_cells hs ho hl
      refine ⟨?_, hbd⟩
      obtain ⟨g1, g2⟩ := isTy_run (w := w) hty
      have hl2 := run_loadCells_list (P := P) w ⟨(ρ id).b, off, none⟩ (γL E ρ l) hcell
      rw [γL_length, hlen, hm] at hl2
      have : (loadVar t ⟨(ρ id).b, off, none⟩).run P w = .ok (.agg (γL E ρ l).toArray) w := by
        unfold loadVar
        simp [g2, hg, g1, hl2]
      simp [resS, h1, V.γ, asAddr, this]
    split at h
    · rename_i z k ht
      simp at h; subst h
      obtain ⟨d, hu, hd, _⟩ := ti_scal hY.ti ht
      exact ⟨_, _, rfl, hl', one ⟨d, hu, hd⟩⟩
    · rename_i ht
      simp at h; subst h
      obtain ⟨hu, _⟩ := ti_slc hY.ti ht
      exact ⟨_, _, rfl, hl', one ⟨_, hu, rfl⟩⟩
    · rename_i fs z ht
      simp at h; subst h
      obtain ⟨fl, hu, _, _, hty, hsz, hg⟩ := ti_str hY.ti ht
      exact ⟨_, _, rfl, hl', many hty hg _ (by rw [len_eq]; exact hsz)⟩
    · rename_i n1 e1 s1 g1 z ht
      simp at h; subst h
      obtain ⟨hu, _, _, _, hty, hsz, hg⟩ := ti_arr hY.ti ht
      exact ⟨_, _, rfl, hl', many hty hg _ (by rw [len_eq]; exact hsz)⟩
    · simp at h
theorem resVs_run {Y : Ty} (hY : TyOk P Y) : ∀ {rs : List ResultVar} {l : List IR}, cRes Y rs = some l → ∀ (E : Env) (ρ : Rho) (fr : Fr) (h : H) (w : World) (tmps : Array Value) (vs : List V), Sat E ρ h w → FrOk E ρ h.n.toNat fr tmps → resVs fr h l = some vs →
    (rs.mapM (resS tmps)).run P w = .ok (γL E ρ vs) w ∧ bdL h.n.toNat vs
  | [], l, hl, E, ρ, fr, h, w, tmps, vs, hs, hf, hv => by
    simp [cRes] at hl; subst hl
    have hv : some [] = some vs := hv
    cases hv
    exact ⟨by simp [γL], trivial⟩
  | r :: rs, l, hl, E, ρ, fr, h, w, tmps, vs, hs, hf, hv => by
    obtain ⟨x, l', rfl, hl', hx⟩ := res1_run hY hl
    have hv : oc (resV fr h x) (fun a => oc (resVs fr h l') (fun b => some (a :: b)) none) none = some vs := hv
    obtain ⟨a, ha, hv⟩ := ocO_some hv
    obtain ⟨b, hb, hv⟩ := ocO_some hv
    cases hv
    obtain ⟨e1, b1⟩ := hx E ρ fr h w tmps a hs hf ha
    obtain ⟨e2, b2⟩ := resVs_run hY hl' E ρ fr h w tmps b hs hf hb
    refine ⟨?_, b1, b2⟩
    rw [List.mapM_cons, Sem.run_bind, e1]
    simp only [Result.andThen_ok, Sem.run_bind, e2, Sem.run_pure, γL]
theorem results_run {Y : Ty} (hY : TyOk P Y) {fn : Func} {l : List IR} (hl : cRes Y fn.results.toList = some l) {ρ : Rho} {fr : Fr} {h : H} {w : World} {tmps : Array Value} {vs : List V} (hs : Sat E ρ h w) (hf : FrOk E ρ h.n.toNat fr tmps) (hv : resVs fr h l = some vs) :
    (results fn tmps).run P w = .ok (if h : (γL E ρ vs).toArray.size = 1 then (γL E ρ vs).toArray[0] else .tuple (γL E ρ vs).toArray) w ∧ bdL h.n.toNat vs := by
  obtain ⟨h1, h2⟩ := resVs_run hY hl E ρ fr h w tmps vs hs hf hv
  refine ⟨?_, h2⟩
  have e0 : results fn tmps = (do
      let vs ← fn.results.mapM (resS tmps)
      pure (if h : vs.size = 1 then vs[0] else .tuple vs)) := rfl
  rw [e0, Sem.run_bind, Array.mapM_eq_mapM_toList, Sem.run_map, h1]
  rfl
/-- what the evaluator's tables must be -/
structure CxOk (E : Env) (P : Program) (Y : Ty) (C : Cx) : Prop where
  ty : TyOk P Y
  mixed : P.follows .mixedOrders = true
  fn : ∀ F i, C.fn F = some i → ∃ (f : Func) (dr : Nat → Option Dr), P.funcs[F]? = some f ∧ Callable P F ∧ cFn Y dr f = some i ∧ (∀ c, f.body = some c → drawB dr c = true)
  hook : ∀ F s, C.hook F = some s → CallOk E P (fun G l h fa k => bc (Nat.beq G F) (s l h fa k) 1)
theorem callS_run {Y : Ty} {C : Cx} (hC : CxOk E P Y C) (n : Nat) {inner : CallT} (ih : CallOk E P inner) : CallOk E P (callS C n inner) := by
    intro F l h fa k hk hfa
    have hk : oc (C.hook F) (fun s => s l h fa k) (oc (C.fn F) (fun f => callF C inner F f l h fa k) (Nat.succ (Nat.add (Nat.mul F 100) 51))) = 0 := hk
    cases hS : C.hook F with
    | some s =>
      rw [hS] at hk
      exact hC.hook F s hS F l h fa k (by simp [bc_eq]; exact hk) hfa
    | none =>
      rw [hS] at hk
      cases hF : C.fn F with
      | none => rw [hF] at hk; exact absurd (show Nat.succ _ = 0 from hk) (by simp)
      | some i =>
        rw [hF] at hk
        have hk : callF C inner F i l h fa k = 0 := hk
        obtain ⟨f, dr, hfn, hca, hcf, hdr⟩ := hC.fn F i hF
        refine ⟨hca, ?_⟩
        unfold cFn at hcf
        split at hcf
        rotate_left
        · simp at hcf
        rename_i c rs hc hrs
        simp at hcf; subst hcf
        obtain ⟨fr, hk, hfr⟩ := initFr_ok hk
        obtain ⟨ae, fr1, h1, fa1, hk1, hfa1, hrun⟩ := codeT_run hC.ty hC.mixed (g := ⟨inner, F, C.fuel⟩) ih c fr h fa _ (hdr c hc) hfa hk
        have fin : (AE.exit' ae = .normal ∨ AE.exit' ae = .ret) → resT rs fr1 h1 (fun v => k v h1 fa1) (Nat.succ (Nat.add (Nat.mul F 100) 49)) = 0 → ∃ v h' fa', k v h' fa' = 0 ∧ FaOk E fa' ∧
            ∀ ρ w, bdL h.n.toNat l → Sat E ρ h w → Calls P F (γL E ρ l).toArray w fun e w' => ∃ ρ', e = .returned (v.γ E ρ') ∧ Sat E ρ' h' w' ∧ Ext ρ h w ρ' h' w' ∧ v.bd h'.n.toNat := by
          intro hae hr
          obtain ⟨vs, hvs, hr⟩ := oc_ok (show oc (resVs fr1 h1 rs) _ _ = 0 from hr) (by simp)
          have hv : ∃ v, k v h1 fa1 = 0 ∧ (∀ n, bdL n vs → v.bd n) ∧ ∀ ρ, (if h : (γL E ρ vs).toArray.size = 1 then (γL E ρ vs).toArray[0] else .tuple (γL E ρ vs).toArray) = v.γ E ρ := by
            match vs, hr with
            | [], hr => exact ⟨.tup [], hr, fun n hn => hn, fun ρ => rfl⟩
            | [x], hr => exact ⟨x, hr, fun n hn => hn.1, fun ρ => by simp [γL]⟩
            | x :: y :: r, hr => exact ⟨.tup (x :: y :: r), hr, fun n hn => hn, fun ρ => by simp [γL, V.γ]⟩
          obtain ⟨v, hkv, hvb, hvγ⟩ := hv
          refine ⟨v, h1, fa1, hkv, hfa1, fun ρ w hb hs => ?_⟩
          refine calls_of_wp hfn hc ?_
          · have hf : FrOk E ρ h.n.toNat fr ((γL E ρ l).toArray ++ Array.replicate (f.ntmps - (γL E ρ l).toArray.size) undef) := by
              intro t v hv
              have h2 := hfr t v hv
              have ht : t < l.length := (List.getElem?_eq_some_iff.1 h2).1
              refine ⟨?_, (bdL_eq _ l).1 hb v (List.mem_of_getElem? h2)⟩
              rw [Array.getElem?_append_left (by simp [γL_length]; exact ht)]
              simp [γL_get, h2]
            refine hrun ρ w { tmps := (γL E ρ l).toArray ++ Array.replicate (f.ntmps - (γL E ρ l).toArray.size) undef, defers := [] } _ hs hf (by simp [γL_length]; omega) rfl ?_
            rintro a1 w1 ⟨ρ1, f1, n1, d1, s1, x1⟩
            obtain ⟨e1, b1⟩ := results_run hC.ty hrs s1 f1 hvs
            rw [hvγ] at e1
            have : bodyPost P f (fun e w' => ∃ ρ', e = .returned (v.γ E ρ') ∧ Sat E ρ' h1 w' ∧ Ext ρ h w ρ' h1 w' ∧ v.bd h1.n.toNat) .ret a1 w1 := ⟨d1, _, e1, ρ1, rfl, s1, x1, hvb _ b1⟩
            rcases hae with h | h <;> rw [h] <;> exact this
        cases ae with
        | normal => exact fin (.inl rfl) hk1
        | ret => exact fin (.inr rfl) hk1
        | exit i => exact absurd (show Nat.succ _ = 0 from hk1) (by simp)
theorem callT_run {Y : Ty} {C : Cx} (hC : CxOk E P Y C) : ∀ n, CallOk E P (callT C n) := by
  intro n
  induction n with
  | zero => intro F l h fa k hk; exact absurd (show Nat.succ _ = 0 from hk) (by simp)
  | succ n ih => exact callS_run hC n ih
end Go.Ev
end
