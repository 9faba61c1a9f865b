/-
  Ranges over a function: the functions.
-/
import Derived.Test.YtapeacnagpphjaaGreatEvPb
set_option linter.unusedSimpArgs false
set_option linter.unusedVariables false
noncomputable section
namespace Go.Ev
open Go
variable {E : Env} {P : Program} {N : Nat}
/-- the iterators' code -/
theorem itr_ok {Y : Ty} (hY : TyOk P Y) {call : CallT} (hcall : CallOk E P call) {fuel G : Nat} {f : Func} {c : Code} (hfn : P.funcs[G]? = some f) (hb : f.body = some c) (hres : f.results.toList = [])
    (s : LS) (hand : Hand) (l : List V) (h : H) (fa : Fa) (k : H → Fa → Pd → Nat) (hh : HandA E P (iterMd E s) (fun i => i.b) hand) (hk : itrT (cCodeY Y f.ntmps c) call G fuel hand l h fa k = 0) (hfa : FaOk E fa) :
    ∃ h' fa' pd', k h' fa' pd' = 0 ∧ FaOk E fa' ∧ ∀ (i : LI) ρ w, bdL h.n.toNat l → Sat E ρ h w → (iterMd E s i).J none [] ρ h w → Calls P G (#[yvOf i.b] ++ (γL E ρ l).toArray) w fun e w' =>
    (∃ v, e = .returned v) ∧ ∃ ρ', Sat E ρ' h' w' ∧ (iterMd E s i).J pd' [] ρ' h' w' ∧ Ext ρ h ((iterMd E s i).m w) ρ' h' ((iterMd E s i).m w') := by
  obtain ⟨fr, hk, hfr⟩ := initFr_eq l 1 .e _ hk
  obtain ⟨ae, fr1, h1, fa1, ys1, pd1, hk1, hfa1, r1⟩ := codeY_run (P := P) (M := iterMd E s) (lb := fun i => i.b) (rg := false) hY (c := ⟨call, G, fuel, hand, noItr⟩) hcall (fun i => iterMd_ok s i) hh (noItr_rng rfl) c fr h fa [keyOf 0] none _ hfa hk
  have fin : (AE.exit' ae = .normal ∨ AE.exit' ae = .ret) → k h1 fa1 pd1 = 0 → ∃ h' fa' pd', k h' fa' pd' = 0 ∧ FaOk E fa' ∧ ∀ (i : LI) ρ w, bdL h.n.toNat l → Sat E ρ h w → (iterMd E s i).J none [] ρ h w → Calls P G (#[yvOf i.b] ++ (γL E ρ l).toArray) w fun e w' =>
    (∃ v, e = .returned v) ∧ ∃ ρ', Sat E ρ' h' w' ∧ (iterMd E s i).J pd' [] ρ' h' w' ∧ Ext ρ h ((iterMd E s i).m w) ρ' h' ((iterMd E s i).m w') := by
    intro hae hk
    refine ⟨h1, fa1, pd1, hk, hfa1, fun i ρ w hbd hs hJ => calls_of_wp hfn hb ?_⟩
    have htm : ∀ t, (#[yvOf i.b] ++ (γL E ρ l).toArray ++ Array.replicate (f.ntmps - (#[yvOf i.b] ++ (γL E ρ l).toArray).size) undef)[1 + t]? = if t < l.length then (γL E ρ l)[t]? else (#[yvOf i.b] ++ (γL E ρ l).toArray ++ Array.replicate (f.ntmps - (#[yvOf i.b] ++ (γL E ρ l).toArray).size) undef)[1 + t]? := by
      intro t
      by_cases ht : t < l.length
      · rw [if_pos ht, Array.getElem?_append_left (by simp [γL_length]; omega), Array.getElem?_append_right (by simp)]
        simp
      · rw [if_neg ht]
    refine (wpIn_wide (n := 0)).1 (r1 i none 0 ρ w ⟨_, []⟩ _ (by simp) hs ?_ ?_ ?_ hJ ?_)
    · intro t v hv
      rcases hfr _ v hv with h3 | ⟨j, h3, h4⟩
      · rw [Fr.get_e] at h3; simp at h3
      · have := key_inj h3
        subst this
        have hj : j < l.length := (List.getElem?_eq_some_iff.1 h4).1
        refine ⟨?_, (bdL_eq _ l).1 hbd v (List.mem_of_getElem? h4)⟩
        show _ = _
        rw [htm j, if_pos hj, γL_get, h4]
        rfl
    · simp [γL_length]; omega
    · intro t ht
      rcases List.mem_cons.1 ht with e | e
      · have := key_inj e
        subst this
        rw [Array.getElem?_append_left (by simp), Array.getElem?_append_left (by simp)]
        simp
      · cases e
    · rintro a' w' ⟨ρ', f1, n1, y1, s1, j1, x1⟩
      have hd : a'.defers = [] := j1.1
      rw [hd] at j1
      have hr : ∃ v, (results f a'.tmps).run P w' = .ok v w' := by
        have e0 : results f a'.tmps = (do
          let vs ← f.results.mapM (resS a'.tmps)
          pure (if h : vs.size = 1 then vs[0] else .tuple vs)) := rfl
        rw [e0, Sem.run_bind, Array.mapM_eq_mapM_toList, Sem.run_map, hres]
        exact ⟨_, rfl⟩
      obtain ⟨v, hv⟩ := hr
      have : bodyPost P f (fun e w' => (∃ v, e = .returned v) ∧ ∃ ρ', Sat E ρ' h1 w' ∧ (iterMd E s i).J pd1 [] ρ' h1 w' ∧ Ext ρ h ((iterMd E s i).m w) ρ' h1 ((iterMd E s i).m w')) .ret a' w' := ⟨hd, v, hv, ⟨v, rfl⟩, ρ', s1, j1, x1⟩
      rcases hae with h | h <;> rw [h] <;> exact this
  cases ae with
  | normal => exact fin (.inl rfl) hk1
  | ret => exact fin (.inr rfl) hk1
  | exit i => exact absurd (show (1 : Nat) = 0 from hk1) (by simp)
/-- a function that ranges -/
theorem rfn_ok {Y : Ty} (hY : TyOk P Y) {call : CallT} (hcall : CallOk E P call) {itr : Nat → Option ItrT} (hitr : ItrOk E P itr) {fuel F : Nat} {f : Func} {c : Code} {rs : List IR} (hfn : P.funcs[F]? = some f) (hca : Callable P F) (hb : f.body = some c)
    (hrs : cRes Y f.results.toList = some rs) : CallOk E P (fun G l h fa k => bc (Nat.beq G F) (rfnT (cCodeY Y f.ntmps c) rs call F fuel itr l h fa k) 1) := by
  intro G l h fa k hk hfa
  obtain ⟨hG, hk⟩ := bc_ok (show bc (Nat.beq G F) _ 1 = 0 from hk) (by simp)
  have hG : G = F := by simpa using hG
  subst hG
  refine ⟨hca, ?_⟩
  obtain ⟨fr, hk, hfr⟩ := initFr_ok hk
  obtain ⟨ae, fr1, h1, fa1, ys1, pd1, hk1, hfa1, r1⟩ := codeY_run (P := P) (M := callMd) (lb := fun _ => 0) (rg := true) hY (c := ⟨call, G, fuel, noHand, itr⟩) hcall callMd_ok noHand_ok (rng_run hY hcall hitr) c fr h fa [] none _ hfa hk
  have fin : (AE.exit' ae = .normal ∨ AE.exit' ae = .ret) → resT rs fr1 h1 (fun v => k v h1 fa1) 1 = 0 → ∃ v h' fa', k v h' fa' = 0 ∧ FaOk E fa' ∧
      ∀ ρ w, bdL h.n.toNat l → Sat E ρ h w → Calls P G (γL E ρ l).toArray w fun e w' => ∃ ρ', e = .returned (v.γ E ρ') ∧ Sat E ρ' h' w' ∧ Ext ρ h w ρ' h' w' ∧ v.bd h'.n.toNat := by
    intro hae hr
    obtain ⟨vs, hvs, hr⟩ := oc_ok (show oc (resVs fr1 h1 rs) _ _ = 0 from hr) (by simp)
    have hv : ∃ v, k v h1 fa1 = 0 ∧ (∀ n, bdL n vs → v.bd n) ∧ ∀ ρ, (if h : (γL E ρ vs).toArray.size = 1 then (γL E ρ vs).toArray[0] else .tuple (γL E ρ vs).toArray) = v.γ E ρ := by
      match vs, hr with
      | [], hr => exact ⟨.tup [], hr, fun n hn => hn, fun ρ => rfl⟩
      | [x], hr => exact ⟨x, hr, fun n hn => hn.1, fun ρ => by simp [γL]⟩
      | x :: y :: r, hr => exact ⟨.tup (x :: y :: r), hr, fun n hn => hn, fun ρ => by simp [γL, V.γ]⟩
    obtain ⟨v, hkv, hvb, hvγ⟩ := hv
    refine ⟨v, h1, fa1, hkv, hfa1, fun ρ w hbd hs => ?_⟩
    refine (callsIn_wide (n := 0)).1 (callsIn_of_wp_marks (F := Fence.wide) hfn hb trivial ?_ rfl)
    have hf : FrOk E ρ h.n.toNat fr ((γL E ρ l).toArray ++ Array.replicate (f.ntmps - (γL E ρ l).toArray.size) undef) := by
      intro t v hv
      have h2 := hfr t v hv
      have ht : t < l.length := (List.getElem?_eq_some_iff.1 h2).1
      refine ⟨?_, (bdL_eq _ l).1 hbd v (List.mem_of_getElem? h2)⟩
      rw [Array.getElem?_append_left (by simp [γL_length]; exact ht)]
      simp [γL_get, h2]
    refine r1 w.heap.size none 0 ρ w ⟨_, []⟩ _ (by simp) hs hf (by simp [γL_length]; omega) (fun t ht => by cases ht) (.inl ⟨Nat.le_refl _, rfl, rfl⟩) ?_
    rintro a1 w1 ⟨ρ1, f1, n1, y1, s1, j1, x1⟩
    have x1 : Ext ρ h w ρ1 h1 w1 := x1
    have this : bodyPostM Fence.wide 0 P f (fun e w' => ∃ ρ', e = .returned (v.γ E ρ') ∧ Sat E ρ' h1 w' ∧ Ext ρ h w ρ' h1 w' ∧ v.bd h1.n.toNat) .ret a1 w1 := by
      show LeavesInM Fence.wide 0 P f a1.tmps _ a1.defers .returning w1
      rcases j1 with ⟨_, _, hd⟩ | ⟨_, b, hB, hd, hD, hu⟩
      · rw [hd]
        obtain ⟨e1, b1⟩ := results_run hY hrs s1 f1 hvs
        rw [hvγ] at e1
        exact ⟨_, e1, ρ1, rfl, s1, x1, hvb _ b1⟩
      · rw [hd]
        have s2 : Sat E ρ1 h1 (w1.putObj b (.deferred none)) := put_sat s1 hu
        obtain ⟨e1, b1⟩ := results_run hY hrs s2 f1 hvs
        rw [hvγ] at e1
        refine ⟨by simp, .inl ⟨b, _, rfl, run_takeDeferred hD, ⟨_, e1, ρ1, rfl, s2, ?_, hvb _ b1⟩⟩⟩
        refine ⟨x1.len, x1.lo, x1.agree, x1.new, x1.os, x1.tape, x1.output, by rw [World.putObj_size]; exact x1.size, fun c hc hno => ?_, x1.old, x1.liv⟩
        rw [World.putObj_heap_other (by omega)]
        exact x1.keep c hc hno
    rcases hae with h | h <;> rw [h] <;> exact this
  cases ae with
  | normal => exact fin (.inl rfl) hk1
  | ret => exact fin (.inr rfl) hk1
  | exit i => exact absurd (show (1 : Nat) = 0 from hk1) (by simp)
end Go.Ev
end
