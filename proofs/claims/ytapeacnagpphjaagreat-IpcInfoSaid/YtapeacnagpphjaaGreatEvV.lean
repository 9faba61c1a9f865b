/-
  Ranges over a function: operations and code inside a fence, calls of yield among them.
-/
import Derived.Test.YtapeacnagpphjaaGreatEvU
import Derived.RangeFuncRecord
import Derived.RangeFuncLeaves
import Derived.RangeFuncSeq
import Derived.LoopNIn
import Derived.TacticsIn
set_option linter.unusedSimpArgs false
set_option linter.unusedVariables false
noncomputable section
namespace Go.Ev
open Go
variable {E : Env} {P : Program} {N : Nat}
theorem N16.no_inj {a b : N16} (h : a.no = b.no) : a = b := by cases a <;> cases b <;> first | rfl | exact absurd h (by decide)
theorem bc_eqB (x y : Bool) : bc x y false = (x && y) := by cases x <;> rfl
theorem kyEq_iff (a b : Ky) : kyEq a b = true ↔ a = b := by
  cases a <;> cases b <;> simp only [kyEq, bc_eqB, Nat.beq_eq, Ky.k1.injEq, Ky.k2.injEq, Ky.k3.injEq, Ky.kn.injEq, reduceCtorEq, Bool.and_eq_true, Bool.false_eq_true]
  · exact ⟨N16.no_inj, fun e => by rw [e]⟩
  · exact ⟨fun ⟨h1, h2⟩ => ⟨N16.no_inj h1, N16.no_inj h2⟩, fun ⟨h1, h2⟩ => ⟨by rw [h1], by rw [h2]⟩⟩
  · exact ⟨fun ⟨h1, h2, h3⟩ => ⟨N16.no_inj h1, N16.no_inj h2, N16.no_inj h3⟩, fun ⟨h1, h2, h3⟩ => ⟨by rw [h1], by rw [h2], by rw [h3]⟩⟩
theorem memY_iff : ∀ (ys : List Ky) (t : Ky), memY ys t = true ↔ t ∈ ys
  | [], t => by simp [memY]
  | a :: r, t => by
    have e : memY (a :: r) t = bc (kyEq a t) true (memY r t) := rfl
    rw [e]
    cases h : kyEq a t with
    | true => simp [bc, (kyEq_iff a t).1 h]
    | false =>
      have : ¬ a = t := fun e => by rw [(kyEq_iff a t).2 e] at h; cases h
      simp [bc, memY_iff r t, Ne.symm this]
/-! ### fences -/
def Fd (r : Option Nat) : Fence := { Fence.wide with round := r }
theorem calls_fd {r : Option Nat} {n : Nat} {f : FuncId} {args : Array Value} {w : World} {R : Ending → World → Prop} (h : Calls P f args w R) : CallsIn (Fd r) n P f args w R :=
  (callsIn_wide (n := n)).2 h
theorem put_tmps (a : Act) (d : Option Tmp) (v : Value) : ((⟨a.tmps, []⟩ : Act).put d v).tmps = (a.put d v).tmps := by cases d <;> rfl
theorem put_defers (a : Act) (d : Option Tmp) (v : Value) : (a.put d v).defers = a.defers := by cases d <;> rfl
theorem op_in {r : Option Nat} {n : Nat} {o : Oper} {a : Act} {w : World} {K : Act → World → Prop} {Q : Exit → Act → World → Prop} (hnd : ∀ c, o.op ≠ .defer c) (hK : ∀ a w, K a w → a.defers = [])
    (h : o.wp P ⟨a.tmps, []⟩ w K (fun _ _ _ => False)) : o.wpIn (Fd r) n P a w (fun a' w' => ∃ v, K ((⟨a.tmps, []⟩ : Act).put o.dst v) w' ∧ a' = a.put o.dst v) Q := by
  unfold Oper.wpIn
  refine ⟨fun _ _ => trivial, ?_⟩
  rw [show o.semAt (Fd r).round a.eval = execOp a.eval o from Oper.semAt_eq r a.eval o hnd]
  have he : (⟨a.tmps, []⟩ : Act).eval = a.eval := by funext x; cases x <;> rfl
  unfold Oper.wp at h
  rw [he] at h
  revert h
  generalize (execOp a.eval o).run P w = res
  intro h
  unfold Oper.upon at h
  split at h
  · exact ⟨_, h, rfl⟩
  · exact ⟨_, h, rfl⟩
  · have := hK _ _ h
    rw [put_defers] at this
    cases this
  · refine ⟨fun h => by simp [Fd, Fence.wide] at h, (calls_fd h).mono ?_⟩
    intro e w2 he
    cases e with
    | returned v => exact ⟨_, he, rfl⟩
    | panicked c => exact he.elim
    | outgrown => obtain ⟨_, _, hf⟩ := he; exact hf.elim
  · refine ⟨fun h => by simp [Fd, Fence.wide] at h, fun c cs _ => ?_⟩
    obtain ⟨v, w2, hh, hs⟩ := h c cs
    exact ⟨v, w2, ⟨_, hh, rfl⟩, stepsIn_wide.2 hs⟩
  · exact h.elim
  · exact h.elim
theorem cOper_nd {Y : Ty} {all : List Oper} {o : Oper} {x : OI} (hx : cOper Y N all o = some x) : ∀ c, o.op ≠ .defer c := by
  intro c hc
  obtain ⟨d, g, _, _, h⟩ := cOper_ok hx
  rcases h with ⟨i, hi, _⟩ | ⟨cl, _, _, _, hop, _⟩
  · rw [hc] at hi; simp [cOp] at hi
  · rw [hc] at hop; cases hop
/-! ### modes: what is kept beside the things -/
structure Md where
  m : World → World
  J : Pd → List Deferred → Rho → H → World → Prop
structure MdOk (E : Env) (M : Md) : Prop where
  step : ∀ {pd ds ρ h w ρ' h' w'}, Sat E ρ h w → Sat E ρ' h' w' → Ext ρ h w ρ' h' w' → M.J pd ds ρ h w → M.J pd ds ρ' h' w' ∧ Ext ρ h (M.m w) ρ' h' (M.m w')
def YS (ys : List Ky) (yv : Value) (tmps : Array Value) : Prop := ∀ t, keyOf t ∈ ys → tmps[t]? = some yv
def AtY (E : Env) (N : Nat) (M : Md) (yv : Value) (ρ : Rho) (h : H) (w : World) (fr' : Fr) (h' : H) (ys' : List Ky) (pd' : Pd) (a' : Act) (w' : World) : Prop :=
  ∃ ρ', FrOk E ρ' h'.n.toNat fr' a'.tmps ∧ N ≤ a'.tmps.size ∧ YS ys' yv a'.tmps ∧ Sat E ρ' h' w' ∧ M.J pd' a'.defers ρ' h' w' ∧ Ext ρ h (M.m w) ρ' h' (M.m w')
theorem AtY.trans {M : Md} {yv : Value} {ρ ρ1 : Rho} {h h1 : H} {w w1 : World} (hx : Ext ρ h (M.m w) ρ1 h1 (M.m w1)) {fr : Fr} {h' : H} {ys : List Ky} {pd : Pd} {a : Act} {w' : World} (s : AtY E N M yv ρ1 h1 w1 fr h' ys pd a w') : AtY E N M yv ρ h w fr h' ys pd a w' := by
  obtain ⟨ρ', a1, a2, a3, a4, a5, a6⟩ := s
  exact ⟨ρ', a1, a2, a3, a4, a5, hx.trans a6⟩
def yvOf (l : Nat) : Value := .func (.yield l) #[] #[]
/-- what a hand does: a round -/
def HandA {ι : Type} (E : Env) (P : Program) (M : ι → Md) (lb : ι → Nat) (hand : Hand) : Prop := ∀ l h fa k, hand l h fa k = 0 → FaOk E fa → ∃ b h' fa' pd', k b h' fa' pd' = 0 ∧ FaOk E fa' ∧
  ∀ i n ρ w ds, bdL h.n.toNat l → Sat E ρ h w → (M i).J none ds ρ h w → YieldAt Fence.wide n P (lb i) (γL E ρ l).toArray w fun e w' =>
    e = .returned (.bool b) ∧ ∃ ρ', Sat E ρ' h' w' ∧ (M i).J pd' ds ρ' h' w' ∧ Ext ρ h ((M i).m w) ρ' h' ((M i).m w')
theorem noHand_ok {ι : Type} {M : ι → Md} {lb : ι → Nat} : HandA E P M lb noHand := fun l h fa k hk => absurd (show (1 : Nat) = 0 from hk) (by simp)
def OneIn (r : Option Nat) (n : Nat) (P : Program) (ops : Array Oper) (o : Oper) (a : Act) (w : World) (K : Act → World → Prop) (Q : Exit → Act → World → Prop) : Prop :=
  if Region.wanted o (yielded ops a.tmps) = true then o.wpIn (Fd r) n P a w K Q else (∀ f, o.about P w a.eval = some f → (Fd r).fn f) ∧ K (a.put o.dst undef) w
theorem uponIn_mono {F : Fence} {n : Nat} {o : Oper} {a : Act} {w : World} {K K' : Act → World → Prop} {Q : Exit → Act → World → Prop} (hK : ∀ a w, K a w → K' a w) (h : o.wpIn F n P a w K Q) : o.wpIn F n P a w K' Q := by
  unfold Oper.wpIn at h ⊢
  refine ⟨h.1, ?_⟩
  have h := h.2
  revert h
  generalize (o.semAt F.round a.eval).run P w = res
  intro h
  unfold Oper.uponIn at h ⊢
  split at h
  · exact hK _ _ h
  · exact hK _ _ h
  · exact hK _ _ h
  · exact ⟨h.1, h.2.mono fun e w' he => by cases e <;> first | exact hK _ _ he | exact he⟩
  · exact ⟨h.1, h.2.mono fun v w' he => hK _ _ he⟩
  · exact ⟨h.1, h.2.mono fun e w' he => by cases e <;> first | exact hK _ _ he | exact he⟩
  · exact h
  · exact h.elim
theorem ys_put {ys : List Ky} {yv : Value} {a : Act} {d : Option Tmp} {v : Value} (hy : YS ys yv a.tmps) (hd : ∀ t, d = some t → keyOf t ∉ ys) : YS ys yv (a.put d v).tmps := by
  intro t ht
  cases d with
  | none => exact hy t ht
  | some t0 =>
    have hne : t0 ≠ t := fun e => hd t0 rfl (by rw [e]; exact ht)
    show (a.tmps.setIfInBounds t0 v)[t]? = some yv
    rw [Array.getElem?_setIfInBounds, if_neg hne]
    exact hy t ht
section
variable {ι : Type} {M : ι → Md} {lb : ι → Nat}
theorem dstOk_of {Y : Ty} {all : List Oper} {o : Oper} {x : OI} (hx : cOper Y N all o = some x) {ys : List Ky} (h : dstOk ys x = true) : ∀ t, o.dst = some t → keyOf t ∉ ys := by
  intro t ht hm
  obtain ⟨d, g, hd, _, hh⟩ := cOper_ok hx
  rw [ht] at hd
  simp only [cDst] at hd
  split at hd
  · simp at hd; subst hd
    have : memY ys (keyOf t) = true := (memY_iff _ _).2 hm
    rcases hh with ⟨i, _, rfl⟩ | ⟨cl, _, _, _, _, _, _, _, rfl⟩
    · have h : bc (memY ys (keyOf t)) false true = true := h
      rw [this] at h; cases h
    · have h : bc (memY ys (keyOf t)) false true = true := h
      rw [this] at h; cases h
  · simp at hd
theorem stepP_run {Y : Ty} (hY : TyOk P Y) {ops : Array Oper} {o : Oper} {x : OI} (hx : cOper Y N ops.toList o = some x) {c : YX} (hcall : CallOk E P c.call) (hM : ∀ i, MdOk E (M i))
    {fr : Fr} {h : H} {fa : Fa} {ys : List Ky} {pd : Pd} {k : KY1} (hfa : FaOk E fa) (hk : stepP x c fr h fa ys pd k = 0) :
    ∃ fr' h' fa' ys' pd', k fr' h' fa' ys' pd' = 0 ∧ FaOk E fa' ∧ ∀ i r n ρ w a Q, Sat E ρ h w → FrOk E ρ h.n.toNat fr (a : Act).tmps → N ≤ a.tmps.size → YS ys (yvOf (lb i)) a.tmps → (M i).J pd a.defers ρ h w →
      OneIn r n P ops o a w (AtY E N (M i) (yvOf (lb i)) ρ h w fr' h' ys' pd') Q := by
  obtain ⟨hd, hk⟩ := bc_ok (show bc (dstOk ys x) _ 1 = 0 from hk) (by simp)
  have hd := dstOk_of hx hd
  obtain ⟨fr', h', fa', hk, hfa', hrun⟩ := step_run hY hx (c := c.x) hcall hfa hk
  refine ⟨fr', h', fa', ys, pd, hk, hfa', fun i r n ρ w a Q hs hf hN hy hJ => ?_⟩
  have fin : ∀ v w', At E N ρ h w fr' h' ((⟨a.tmps, []⟩ : Act).put o.dst v) w' → AtY E N (M i) (yvOf (lb i)) ρ h w fr' h' ys pd (a.put o.dst v) w' := by
    rintro v w' ⟨ρ', f1, n1, d1, s1, x1⟩
    rw [put_tmps] at f1 n1
    obtain ⟨j1, x2⟩ := (hM i).step hs s1 x1 hJ
    exact ⟨ρ', f1, n1, ys_put hy hd, s1, by rw [put_defers]; exact j1, x2⟩
  unfold OneIn
  rcases hrun ρ w ⟨a.tmps, []⟩ (fun _ _ _ => False) hs hf hN rfl with ⟨hw, hwp⟩ | ⟨hw, hA⟩
  · rw [if_pos hw]
    refine uponIn_mono ?_ (op_in (cOper_nd hx) (fun a w hA => hA.choose_spec.2.2.1) hwp)
    rintro a' w' ⟨v, hv, rfl⟩
    exact fin v w' hv
  · have hw : Region.wanted o (yielded ops a.tmps) = false := hw
    rw [if_neg (by simp [hw])]
    exact ⟨fun _ _ => trivial, fin undef w hA⟩
theorem isSo_false {α : Type} {x : Option α} (h : isSo x = false) : x = none := by cases x with
  | none => rfl
  | some a => cases h
theorem bcF_ok {x : Bool} {a e : Nat} (h : bc x e a = 0) (he : e ≠ 0) : x = false ∧ a = 0 := by
  cases x with
  | false => exact ⟨rfl, h⟩
  | true => exact absurd h he
theorem cDst_some {t : Nat} {d : Option Ky} (h : cDst N (some t) = some d) : t < N := by
  simp only [cDst] at h
  split at h
  · rename_i hh; simpa using hh
  · simp at h
theorem mv_run {o : Oper} {t : Nat} (hop : o.op = .move (.tmp t) ∨ o.op = .assign (.tmp t)) (a : Act) (w : World) : (execOp a.eval o).run P w = .ok (.value (a.eval (.tmp t))) w := by
  rcases hop with h | h <;> simp [execOp, h]
theorem stepY_run {Y : Ty} (hY : TyOk P Y) {ops : Array Oper} {o : Oper} {x : YO} (hx : cOperY Y N ops.toList o = some x) {c : YX} (hcall : CallOk E P c.call) (hM : ∀ i, MdOk E (M i)) (hh : HandA E P M lb c.hand)
    {fr : Fr} {h : H} {fa : Fa} {ys : List Ky} {pd : Pd} {k : KY1} (hfa : FaOk E fa) (hk : stepY x c fr h fa ys pd k = 0) :
    ∃ fr' h' fa' ys' pd', k fr' h' fa' ys' pd' = 0 ∧ FaOk E fa' ∧ ∀ i r n ρ w a Q, Sat E ρ h w → FrOk E ρ h.n.toNat fr (a : Act).tmps → N ≤ a.tmps.size → YS ys (yvOf (lb i)) a.tmps → (M i).J pd a.defers ρ h w →
      OneIn r n P ops o a w (AtY E N (M i) (yvOf (lb i)) ρ h w fr' h' ys' pd') Q := by
  unfold cOperY at hx
  split at hx
  · simp at hx
  rename_i x0 hx0
  have plain : ∀ k', stepP x0 c fr h fa ys pd k = 0 → _ := fun (k' : Unit) hk => stepP_run (M := M) (lb := lb) hY hx0 hcall hM hfa hk
  have mv : ∀ d t, o.guard = none → o.dst = some d → (o.op = .move (.tmp t) ∨ o.op = .assign (.tmp t)) → stepY (.mv (keyOf d) (keyOf t) x0) c fr h fa ys pd k = 0 → _ := fun d t hg hdst hop hk => by
    have hk : bc (memY ys (keyOf t)) (bc (isSo (fr.get (keyOf d))) 1 (k fr h fa (keyOf d :: ys) pd)) (stepP x0 c fr h fa ys pd k) = 0 := hk
    cases hm : memY ys (keyOf t) with
    | false => rw [hm] at hk; exact plain () hk
    | true =>
      rw [hm] at hk
      obtain ⟨hd0, hk⟩ := bcF_ok (show bc (isSo (fr.get (keyOf d))) 1 _ = 0 from hk) (by simp)
      have hd0 := isSo_false hd0
      have hlt : d < N := by
        obtain ⟨d', g', hd', _⟩ := cOper_ok hx0
        rw [hdst] at hd'
        exact cDst_some hd'
      refine ⟨fr, h, fa, keyOf d :: ys, pd, hk, hfa, fun i r n ρ w a Q hs hf hN hy hJ => ?_⟩
      have hyt := hy t ((memY_iff _ _).1 hm)
      unfold OneIn
      rw [if_pos (by simp [Region.wanted, hg])]
      unfold Oper.wpIn
      refine ⟨fun _ _ => trivial, ?_⟩
      rw [show o.semAt (Fd r).round a.eval = execOp a.eval o from Oper.semAt_eq r a.eval o (cOper_nd hx0), mv_run hop]
      show AtY E N (M i) (yvOf (lb i)) ρ h w fr h (keyOf d :: ys) pd (a.put o.dst (a.eval (.tmp t))) w
      have hev : a.eval (.tmp t) = yvOf (lb i) := by simp [Act.eval, hyt]
      rw [hev, hdst]
      have hds : d < a.tmps.size := Nat.lt_of_lt_of_le hlt hN
      refine ⟨ρ, fun s v hv => ?_, by simpa [Act.put] using hN, fun s hs2 => ?_, hs, hJ, Ext.refl ρ h _ (fun p o hp => (hs.bd p o hp).1)⟩
      · have hsd : d ≠ s := fun e => by subst e; rw [hd0] at hv; cases hv
        obtain ⟨g1, g2⟩ := hf s v hv
        refine ⟨?_, g2⟩
        show (a.tmps.setIfInBounds d (yvOf (lb i)))[s]? = _
        rw [Array.getElem?_setIfInBounds, if_neg hsd]; exact g1
      · show (a.tmps.setIfInBounds d (yvOf (lb i)))[s]? = _
        rw [Array.getElem?_setIfInBounds]
        by_cases hsd : d = s
        · rw [if_pos hsd, if_pos hds]
        · rw [if_neg hsd]
          rcases List.mem_cons.1 hs2 with e | e
          · exact absurd (key_inj e).symm hsd
          · exact hy s e
  split at hx
  · rename_i d t hg hdst hop
    simp at hx; subst hx
    exact mv d t hg hdst (.inl hop) hk
  · rename_i d t hg hdst hop
    simp at hx; subst hx
    exact mv d t hg hdst (.inr hop) hk
  · rename_i d cl hg hdst hop
    split at hx
    · rename_i t l hcal hl
      simp at hx; subst hx
      have hk : bc (memY ys (keyOf t)) (bc (memY ys (keyOf d)) 1 (bc (isSo pd) 1 (oc (ods l fr) (fun l => c.hand l h fa (fun b h fa pd => setF (keyOf d) fr (.b b) (fun fr => k fr h fa ys pd))) 1))) (stepP x0 c fr h fa ys pd k) = 0 := hk
      cases hm : memY ys (keyOf t) with
      | false => rw [hm] at hk; exact plain () hk
      | true =>
        rw [hm] at hk
        obtain ⟨hd0, hk⟩ := bcF_ok (show bc (memY ys (keyOf d)) 1 _ = 0 from hk) (by simp)
        obtain ⟨hp0, hk⟩ := bcF_ok hk (by simp)
        have hp0 := isSo_false hp0
        subst hp0
        obtain ⟨vs, hvs, hk⟩ := oc_ok hk (by simp)
        obtain ⟨b, h', fa', pd', hk, hfa', hrun⟩ := hh vs h fa _ hk hfa
        obtain ⟨fr', hk, g1, g2⟩ := setF_ok hk
        have hlt : d < N := by
          obtain ⟨d', g', hd', _⟩ := cOper_ok hx0
          rw [hdst] at hd'
          exact cDst_some hd'
        refine ⟨fr', h', fa', ys, pd', hk, hfa', fun i r n ρ w a Q hs hf hN hy hJ => ?_⟩
        have hyt := hy t ((memY_iff _ _).1 hm)
        obtain ⟨e2, b2⟩ := ods_run hf hl hvs
        have hargs : cl.args.map a.eval = (γL E ρ vs).toArray := Array.toList_inj.1 (by rw [Array.toList_map]; exact e2)
        obtain ⟨fn, tmps, asg, body, hyd, hround⟩ := hrun i (n - 1) ρ w a.defers b2 hs hJ
        unfold OneIn
        rw [if_pos (by simp [Region.wanted, hg])]
        unfold Oper.wpIn
        refine ⟨fun _ _ => trivial, ?_⟩
        have hex : (execOp a.eval o).run P w = .ok (.round (lb i) fn tmps asg body) w := by
          rw [← hyd]
          simp [execOp, hop, resolve, hcal, Act.eval, hyt, yvOf, Deferred.ofValue, invoke, hargs]
        rw [show o.semAt (Fd r).round a.eval = execOp a.eval o from Oper.semAt_eq r a.eval o (cOper_nd hx0), hex, Oper.uponIn_round]
        refine ⟨fun h => by simp [Fd, Fence.wide] at h, RoundIn.mono hround ?_⟩
        rintro e w' ⟨rfl, ρ', s1, j1, x1⟩
        show AtY E N (M i) (yvOf (lb i)) ρ h w fr' h' ys pd' (a.put o.dst (.bool b)) w'
        have hds : d < a.tmps.size := Nat.lt_of_lt_of_le hlt hN
        refine ⟨ρ', ?_, by rw [hdst]; simpa [Act.put] using hN, ys_put hy (fun t0 e => by rw [hdst] at e; cases e; intro hmem; rw [(memY_iff _ _).2 hmem] at hd0; cases hd0), s1, by rw [put_defers]; exact j1, x1⟩
        rw [hdst]
        exact (hf.mono x1.len x1.agree).set (v := .b b) hds trivial g1 g2
    · simp at hx; subst hx
      exact plain () hk
  · simp at hx; subst hx
    exact plain () hk
end
end Go.Ev
end
