/-
  Operations and calls, one after another.
-/
import Derived.Test.YtapeacnagpphjaaGreatEvL
set_option linter.unusedSimpArgs false
set_option linter.unusedVariables false
noncomputable section
namespace Go.Ev
open Go
variable {E : Env} {P : Program} {N : Nat}

theorem evI_strong {Y : Ty} (hY : TyOk P Y) {o : Oper} {i : IOp} (hc : cOp Y o.op = some i) {fr : Fr} {h : H} {k : KV} {e : Nat} (hr : evI i fr h k e = 0) (he : e ≠ 0) :
    ∃ v h', k v h' = 0 ∧ ∀ (E : Env) (ρ : Rho) (a : Act) (w : World), FrOk E ρ h.n.toNat fr a.tmps → Sat E ρ h w → OpPost E P o a ρ h w v h' := by
  rcases evI_par i fr h with h1 | ⟨v, h', h1⟩
  · exact absurd ((h1 k e).symm.trans hr) he
  · refine ⟨v, h', by rw [← h1 k e]; exact hr, fun E ρ a w hf hs => ?_⟩
    obtain ⟨v2, h2, hp, hk⟩ := evI_run (k := fun v2 h2 => @ite _ (v2 = v ∧ h2 = h') (Classical.propDecidable _) 0 1) (e := 1) hY hc ((h1 _ _).trans (by simp)) (by simp) hf hs
    by_cases hc : v2 = v ∧ h2 = h'
    · rw [hc.1, hc.2] at hp; exact hp
    · rw [if_neg hc] at hk; simp at hk
theorem still_strong {Y : Ty} (hY : TyOk P Y) {o : Oper} {i : IOp} (hc : cOp Y o.op = some i) (hst : stillO i = true) {fr : Fr} {h : H} {k : KV} {e : Nat} (hr : evI i fr h k e = 0) (he : e ≠ 0) :
    ∃ v h', k v h' = 0 ∧ ∀ (E : Env) (ρ : Rho) (n : Nat) (a : Act) (w : World), h.n.toNat ≤ n → FrOk E ρ n fr a.tmps → Sat E ρ h w → (execOp a.eval o).run P w = .ok (.value (v.γ E ρ)) w ∧ v.bd n := by
  rcases evI_par i fr h with h1 | ⟨v, h', h1⟩
  · exact absurd ((h1 k e).symm.trans hr) he
  · refine ⟨v, h', by rw [← h1 k e]; exact hr, fun E ρ n a w hn hf hs => ?_⟩
    obtain ⟨v2, h2, hp, hk⟩ := evI_still (k := fun v2 h2 => @ite _ (v2 = v ∧ h2 = h') (Classical.propDecidable _) 0 1) (e := 1) hY hc hst ((h1 _ _).trans (by simp)) (by simp) hn hf hs
    by_cases hc : v2 = v ∧ h = h'
    · rw [hc.1] at h2 hp; exact ⟨h2, hp⟩
    · rw [if_neg hc] at hk; simp at hk

def Callable (P : Program) (F : Nat) : Prop := ∀ args w, (callFunc F args).run P w = .ok (.enter F args) w
def CallOk (E : Env) (P : Program) (call : CallT) : Prop := ∀ F l h fa k, call F l h fa k = 0 → FaOk E fa → Callable P F ∧ ∃ v h' fa', k v h' fa' = 0 ∧ FaOk E fa' ∧
  ∀ ρ w, bdL h.n.toNat l → Sat E ρ h w → Calls P F (γL E ρ l).toArray w fun e w' => ∃ ρ', e = .returned (v.γ E ρ') ∧ Sat E ρ' h' w' ∧ Ext ρ h w ρ' h' w' ∧ v.bd h'.n.toNat
/-- the state that is reached -/
def At (E : Env) (N : Nat) (ρ : Rho) (h : H) (w : World) (fr' : Fr) (h' : H) (a' : Act) (w' : World) : Prop :=
  ∃ ρ', FrOk E ρ' h'.n.toNat fr' a'.tmps ∧ N ≤ a'.tmps.size ∧ a'.defers = [] ∧ Sat E ρ' h' w' ∧ Ext ρ h w ρ' h' w'
theorem FrOk.mono {ρ ρ' : Rho} {n n' : Nat} {fr : Fr} {tmps : Array Value} (hf : FrOk E ρ n fr tmps) (hn : n ≤ n') (h : ∀ i : Ev.P, i.toNat < n → ρ' i = ρ i) : FrOk E ρ' n' fr tmps := by
  intro t v hv
  obtain ⟨h1, h2⟩ := hf t v hv
  exact ⟨by rw [h1, γ_agree E h v h2], bd_mono hn v h2⟩
theorem FrOk.set {ρ : Rho} {n : Nat} {fr fr' : Fr} {tmps : Array Value} (hf : FrOk E ρ n fr tmps) {s : Nat} (hs : s < tmps.size) {v : V} (hv : v.bd n) (h1 : fr'.get (keyOf s) = some v) (h2 : ∀ q, q ≠ keyOf s → fr'.get q = fr.get q) : FrOk E ρ n fr' (tmps.setIfInBounds s (v.γ E ρ)) := by
  intro t u hu
  by_cases hst : t = s
  · subst hst
    rw [h1] at hu
    simp at hu; subst hu
    exact ⟨by simp [hs], hv⟩
  · rw [h2 _ (fun e => hst (key_inj e))] at hu
    obtain ⟨h2, h3⟩ := hf t u hu
    exact ⟨by rw [Array.getElem?_setIfInBounds, if_neg (fun e => hst e.symm)]; exact h2, h3⟩
/-- a value put into the frame -/
theorem putF_ok {d : Option Ky} {dst : Option Nat} (hd : cDst N dst = some d) {v : V} {fr : Fr} {k : Fr → Nat} (hk : putF d v fr k = 0) :
    ∃ fr', k fr' = 0 ∧ ∀ (E : Env) (ρ : Rho) (n : Nat) (a : Act), FrOk E ρ n fr a.tmps → N ≤ a.tmps.size → v.bd n →
      FrOk E ρ n fr' (a.put dst (v.γ E ρ)).tmps ∧ N ≤ (a.put dst (v.γ E ρ)).tmps.size ∧ (a.put dst (v.γ E ρ)).defers = a.defers := by
  cases dst with
  | none =>
    simp [cDst] at hd; subst hd
    exact ⟨fr, hk, fun E ρ n a hf hN hv => ⟨hf, hN, rfl⟩⟩
  | some t =>
    simp only [cDst] at hd
    split at hd
    · rename_i hlt
      have hlt : t < N := by simpa using hlt
      simp at hd; subst hd
      have hk : setF (keyOf t) fr v k = 0 := hk
      obtain ⟨fr', hk, g1, g2⟩ := setF_ok hk
      exact ⟨_, hk, fun E ρ n a hf hN hv => ⟨hf.set (by omega) hv g1 g2, by simpa [Act.put] using hN, rfl⟩⟩
    · simp at hd
theorem putF'_ok {E : Env} {fa : Fa} (hfa : FaOk E fa) {d : Option Ky} {dst : Option Nat} (hd : cDst N dst = some d) {v : V} {fr : Fr} {k : Fr → Nat} (hk : putF' d fa v fr k = 0) :
    ∃ fr', k fr' = 0 ∧ ∀ (ρ : Rho) (n : Nat) (a : Act), FrOk E ρ n fr a.tmps → N ≤ a.tmps.size → v.bd n →
      FrOk E ρ n fr' (a.put dst (v.γ E ρ)).tmps ∧ N ≤ (a.put dst (v.γ E ρ)).tmps.size ∧ (a.put dst (v.γ E ρ)).defers = a.defers := by
  unfold putF' at hk
  rw [nrmK_eq] at hk
  obtain ⟨fr', h1, h2⟩ := putF_ok hd hk
  obtain ⟨g1, g2⟩ := nrm_ok hfa v
  refine ⟨fr', h1, fun ρ n a hf hN hb => ?_⟩
  have := h2 E ρ n a hf hN (g2 n hb)
  rw [g1 ρ] at this
  exact this
theorem err_ne (c : Ctx) (n : Nat) : err c n ≠ 0 := by simp [err]
/-- is it wanted? -/
theorem guard_ok {ops : Array Oper} {o : Oper} {g : Option (Ky × Bool)} (hg : cGuard ops.toList o.guard = some g) {c : Ctx} {fr : Fr} {fa : Fa} (hfa : FaOk E fa) {k s : Fa → Nat} (hk : guardT c g fr fa k s = 0) :
    (∃ fa', FaOk E fa' ∧ k fa' = 0 ∧ ∀ ρ n a, FrOk E ρ n fr (a : Act).tmps → Region.wanted o (yielded ops a.tmps) = true) ∨
    (∃ fa', FaOk E fa' ∧ s fa' = 0 ∧ ∀ ρ n a, FrOk E ρ n fr (a : Act).tmps → Region.wanted o (yielded ops a.tmps) = false) := by
  cases hgd : o.guard with
  | none =>
    rw [hgd] at hg
    simp [cGuard] at hg; subst hg
    exact .inl ⟨fa, hfa, hk, fun ρ n a _ => by simp [Region.wanted, hgd]⟩
  | some jw =>
    obtain ⟨j, want⟩ := jw
    rw [hgd] at hg
    simp only [cGuard] at hg
    split at hg
    · rename_i t ht
      simp at hg; subst hg
      have hk : bc (isTup (fr.get (keyOf t))) (s fa) (way fa (fr.get (keyOf t)) (fun x fa => bc x (bc want (k fa) (s fa)) (bc want (s fa) (k fa))) (err c 40)) = 0 := hk
      cases hT : isTup (fr.get (keyOf t)) with
      | true =>
        rw [hT] at hk
        have hk : s fa = 0 := hk
        refine .inr ⟨fa, hfa, hk, fun ρ n a hf => ?_⟩
        unfold isTup at hT
        split at hT
        · rename_i l hl
          have h1 := (hf t _ hl).1
          unfold dstOf at ht
          rw [nth_eq] at ht
          split at ht
          · rename_i oj hoj
            have hoj : ops[j]? = some oj := by simpa using hoj
            simp [Region.wanted, hgd, yielded, hoj, ht, h1, V.γ]
          · simp at ht
        · simp at hT
      | false =>
      rw [hT] at hk
      have hk : way fa (fr.get (keyOf t)) (fun x fa => bc x (bc want (k fa) (s fa)) (bc want (s fa) (k fa))) (err c 40) = 0 := hk
      obtain ⟨x, b, fa', hx, hb, hfa', hk⟩ := way_ok hk (err_ne _ _) hfa (fun _ => ⟨0, 0⟩)
      have hb' : ∀ ρ, x.γ E ρ = .bool b := by
        intro ρ
        cases x <;> simp [V.γ] at hb ⊢ <;> exact hb
      have hy : ∀ ρ n (a : Act), FrOk E ρ n fr a.tmps → yielded ops a.tmps j = some b := by
        intro ρ n a hf
        have h1 := (hf t x hx).1
        unfold dstOf at ht
        rw [nth_eq] at ht
        split at ht
        · rename_i oj hoj
          have hoj : ops[j]? = some oj := by simpa using hoj
          simp [yielded, hoj, ht, h1, hb']
        · simp at ht
      cases b <;> cases want
      · exact .inl ⟨fa', hfa', hk, fun ρ n a hf => by simp [Region.wanted, hgd, hy ρ n a hf]⟩
      · exact .inr ⟨fa', hfa', hk, fun ρ n a hf => by simp [Region.wanted, hgd, hy ρ n a hf]⟩
      · exact .inr ⟨fa', hfa', hk, fun ρ n a hf => by simp [Region.wanted, hgd, hy ρ n a hf]⟩
      · exact .inl ⟨fa', hfa', hk, fun ρ n a hf => by simp [Region.wanted, hgd, hy ρ n a hf]⟩
    · simp at hg
/-- a call -/
theorem callD_of {o : Oper} {cl : Call} {f0 : Operand} (hop : o.op = .call cl) (hcal : cl.callee = .value f0) {f : Od} (hf0 : cOd f0 = some f) {args : List Od} (ha : cOds cl.args.toList = some args)
    {c : Ctx} {fr : Fr} {h : H} {fa : Fa} {k : K} (hk : callD f args c fr h fa k = 0) :
    ∃ F l, c.call F l h fa k = 0 ∧ ∀ (E : Env) ρ n (a : Act), FrOk E ρ n fr a.tmps → bdL n l ∧ ∀ w, (execOp a.eval o).run P w = (callFunc F (γL E ρ l).toArray).run P w := by
  unfold callD at hk
  generalize hF : od f fr = q at hk
  rcases q with _ | q
  · exact absurd hk (err_ne _ _)
  cases q <;> try exact absurd hk (err_ne _ _)
  rename_i F pre caps
  obtain ⟨l, hl, hk⟩ := oc_ok (show oc (ods args fr) _ _ = 0 from hk) (err_ne _ _)
  refine ⟨F, app pre (app l caps), hk, fun E ρ n a hf => ?_⟩
  obtain ⟨e1, b1⟩ := od_run hf hf0 hF
  obtain ⟨e2, b2⟩ := ods_run hf ha hl
  refine ⟨?_, fun w => ?_⟩
  · rw [app_eq, app_eq, bdL_eq]
    intro x hx
    rcases List.mem_append.1 hx with h1 | h1
    · exact (bdL_eq _ pre).1 b1.1 x h1
    · rcases List.mem_append.1 h1 with h1 | h1
      · exact (bdL_eq _ l).1 b2 x h1
      · exact (bdL_eq _ caps).1 b1.2 x h1
  · have hargs : cl.args.map a.eval = (γL E ρ l).toArray := Array.toList_inj.1 (by rw [Array.toList_map]; exact e2)
    have : (execOp a.eval o).run P w = (callFunc F ((γL E ρ pre).toArray ++ (γL E ρ l).toArray ++ (γL E ρ caps).toArray)).run P w := by
      simp [execOp, hop, resolve, hcal, e1, V.γ, Deferred.ofValue, invoke, hargs]
    rw [this, app_eq, app_eq, γL_app, γL_app]
    simp
theorem callD_ok {o : Oper} {cl : Call} {f0 : Operand} (hop : o.op = .call cl) (hcal : cl.callee = .value f0) {f : Od} (hf0 : cOd f0 = some f) {args : List Od} (ha : cOds cl.args.toList = some args)
    {c : Ctx} (hcall : CallOk E P c.call) {fr : Fr} {h : H} {fa : Fa} (hfa : FaOk E fa) {k : K} (hk : callD f args c fr h fa k = 0) :
    ∃ F l v h' fa', k v h' fa' = 0 ∧ FaOk E fa' ∧ (∀ ρ n (a : Act), FrOk E ρ n fr a.tmps → bdL n l ∧ ∀ w, (execOp a.eval o).run P w = .ok (.enter F (γL E ρ l).toArray) w) ∧
      ∀ ρ w, bdL h.n.toNat l → Sat E ρ h w → Calls P F (γL E ρ l).toArray w fun e w' => ∃ ρ', e = .returned (v.γ E ρ') ∧ Sat E ρ' h' w' ∧ Ext ρ h w ρ' h' w' ∧ v.bd h'.n.toNat := by
  obtain ⟨F, l, hk, hr⟩ := callD_of (P := P) hop hcal hf0 ha hk
  obtain ⟨hca, v, h', fa', h1, h2, h3⟩ := hcall _ _ _ _ _ hk hfa
  refine ⟨F, l, v, h', fa', h1, h2, fun ρ n a hf => ?_, h3⟩
  obtain ⟨q1, q2⟩ := hr E ρ n a hf
  exact ⟨q1, fun w => by rw [q2 w, hca]⟩
/-- one of a region -/
def One (P : Program) (ops : Array Oper) (o : Oper) (a : Act) (w : World) (K : Act → World → Prop) (QQ : Exit → Act → World → Prop) : Prop :=
  (Region.wanted o (yielded ops a.tmps) = true ∧ o.wp P a w K QQ) ∨ (Region.wanted o (yielded ops a.tmps) = false ∧ K (a.put o.dst undef) w)
theorem cOper_ok {Y : Ty} {all : List Oper} {o : Oper} {x : OI} (hx : cOper Y N all o = some x) : ∃ d g, cDst N o.dst = some d ∧ cGuard all o.guard = some g ∧
    ((∃ i, cOp Y o.op = some i ∧ x = .op d g i) ∨ ∃ cl f0 f l, o.op = .call cl ∧ cl.callee = .value f0 ∧ cOd f0 = some f ∧ cOds cl.args.toList = some l ∧ x = .call d g f l) := by
  unfold cOper at hx
  split at hx
  · rename_i d g hd hg
    refine ⟨d, g, hd, hg, ?_⟩
    split at hx
    · rename_i i hi
      simp at hx; subst hx
      exact .inl ⟨i, hi, rfl⟩
    · split at hx
      · rename_i cl hop
        split at hx
        · rename_i f0 hcal
          split at hx
          · rename_i f l hf hl
            simp at hx; subst hx
            exact .inr ⟨cl, f0, f, l, hop, hcal, hf, hl, rfl⟩
          · simp at hx
        · simp at hx
      · simp at hx
  · simp at hx
theorem step_run {Y : Ty} (hY : TyOk P Y) {ops : Array Oper} {o : Oper} {x : OI} (hx : cOper Y N ops.toList o = some x) {c : Ctx} (hcall : CallOk E P c.call) {fr : Fr} {h : H} {fa : Fa} (hfa : FaOk E fa) {k : K1}
    (hk : OI.go stepOp stepCall x c fr h fa k = 0) :
    ∃ fr' h' fa', k fr' h' fa' = 0 ∧ FaOk E fa' ∧ ∀ ρ w a QQ, Sat E ρ h w → FrOk E ρ h.n.toNat fr (a : Act).tmps → N ≤ a.tmps.size → a.defers = [] → One P ops o a w (At E N ρ h w fr' h') QQ := by
  obtain ⟨d, g, hd, hg, hx⟩ := cOper_ok hx
  have skip : ∀ fa', putF d (.tup []) fr (fun fr => k fr h fa') = 0 → ∃ fr', k fr' h fa' = 0 ∧ ∀ ρ w (a : Act), Sat E ρ h w → FrOk E ρ h.n.toNat fr a.tmps → N ≤ a.tmps.size → a.defers = [] → At E N ρ h w fr' h (a.put o.dst undef) w := by
    intro fa' hk
    obtain ⟨fr', h1, h2⟩ := putF_ok hd hk
    refine ⟨fr', h1, fun ρ w a hs hf hN hdf => ?_⟩
    obtain ⟨g1, g2, g3⟩ := h2 E ρ _ a hf hN (by trivial)
    exact ⟨ρ, g1, g2, g3.trans hdf, hs, hs.refl E⟩
  rcases hx with ⟨i, hi, rfl⟩ | ⟨cl, f0, f, l, hop, hcal, hf0, hl, rfl⟩
  · have hk : stepOp d g i c fr h fa k = 0 := hk
    rcases guard_ok hg hfa hk with ⟨fa', hfa', hk, hw⟩ | ⟨fa', hfa', hk, hw⟩
    · obtain ⟨v, h', hk, hrun⟩ := evI_strong hY hi hk (err_ne _ _)
      obtain ⟨fr', h1, h2⟩ := putF'_ok hfa' hd hk
      refine ⟨fr', h', fa', h1, hfa', fun ρ w a QQ hs hf hN hdf => .inl ⟨hw ρ _ a hf, ?_⟩⟩
      obtain ⟨ρ', w', nx, hr, hnx, hs', hx', hb⟩ := hrun E ρ a w hf hs
      obtain ⟨g1, g2, g3⟩ := h2 ρ' _ a (hf.mono hx'.len hx'.agree) hN hb
      unfold Oper.wp
      rw [hr]
      have hgo : At E N ρ h w fr' h' (a.put o.dst (v.γ E ρ')) w' := ⟨ρ', g1, g2, g3.trans hdf, hs', hx'⟩
      rcases hnx with rfl | ⟨rfl, rfl⟩
      · exact hgo
      · exact hgo
    · obtain ⟨fr', h1, h2⟩ := skip fa' hk
      exact ⟨fr', h, fa', h1, hfa', fun ρ w a QQ hs hf hN hdf => .inr ⟨hw ρ _ a hf, h2 ρ w a hs hf hN hdf⟩⟩
  · have hk : stepCall d g f l c fr h fa k = 0 := hk
    rcases guard_ok hg hfa hk with ⟨fa', hfa', hk, hw⟩ | ⟨fa', hfa', hk, hw⟩
    · obtain ⟨F, vl, v, h', fa2, hk, hfa2, hrun, hdo⟩ := callD_ok hop hcal hf0 hl hcall hfa' hk
      obtain ⟨fr', h1, h2⟩ := putF_ok hd hk
      refine ⟨fr', h', fa2, h1, hfa2, fun ρ w a QQ hs hf hN hdf => .inl ⟨hw ρ _ a hf, ?_⟩⟩
      obtain ⟨hbd, hr⟩ := hrun ρ _ a hf
      unfold Oper.wp
      rw [hr, Oper.upon_enter]
      refine (hdo ρ w hbd hs).mono ?_
      rintro e w' ⟨ρ', rfl, hs', hx', hb⟩
      obtain ⟨g1, g2, g3⟩ := h2 E ρ' _ a (hf.mono hx'.len hx'.agree) hN hb
      exact ⟨ρ', g1, g2, g3.trans hdf, hs', hx'⟩
    · obtain ⟨fr', h1, h2⟩ := skip fa' hk
      exact ⟨fr', h, fa', h1, hfa', fun ρ w a QQ hs hf hN hdf => .inr ⟨hw ρ _ a hf, h2 ρ w a hs hf hN hdf⟩⟩
end Go.Ev
end
