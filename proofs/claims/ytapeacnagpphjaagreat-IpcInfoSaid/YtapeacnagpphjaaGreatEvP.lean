/-
  Ranges over a function: code, the rounds of a loop, the loop, the functions.
-/
import Derived.Test.YtapeacnagpphjaaGreatEvV
set_option linter.unusedSimpArgs false
set_option linter.unusedVariables false
noncomputable section
namespace Go.Ev
open Go
variable {E : Env} {P : Program} {N : Nat} {ι : Type} {M : ι → Md} {lb : ι → Nat}
theorem opsY_run {Y : Ty} (hY : TyOk P Y) {ops : Array Oper} {c : YX} (hcall : CallOk E P c.call) (hM : ∀ i, MdOk E (M i)) (hh : HandA E P M lb c.hand) {k : KY1} : ∀ (l : List Oper) (l' : List YO) (fr : Fr) (h : H) (fa : Fa) (ys : List Ky) (pd : Pd),
    cOpersY Y N ops.toList l = some l' → FaOk E fa → opsY l' c fr h fa ys pd k = 0 →
    ∃ fr' h' fa' ys' pd', k fr' h' fa' ys' pd' = 0 ∧ FaOk E fa' ∧ ∀ i r n ρ w a QQ, Sat E ρ h w → FrOk E ρ h.n.toNat fr (a : Act).tmps → N ≤ a.tmps.size → YS ys (yvOf (lb i)) a.tmps → (M i).J pd a.defers ρ h w →
      (∀ a' w', AtY E N (M i) (yvOf (lb i)) ρ h w fr' h' ys' pd' a' w' → QQ .normal a' w') → wpListIn (Fd r) n P ops QQ l a w
  | [], l', fr, h, fa, ys, pd, hl, hfa, hk => by
    simp [cOpersY] at hl; subst hl
    exact ⟨fr, h, fa, ys, pd, hk, hfa, fun i r n ρ w a QQ hs hf hN hy hJ hq => hq a w ⟨ρ, hf, hN, hy, hs, hJ, Ext.refl ρ h _ (fun p o hp => (hs.bd p o hp).1)⟩⟩
  | o :: r0, l', fr, h, fa, ys, pd, hl, hfa, hk => by
    simp only [cOpersY] at hl
    split at hl
    rotate_left
    · simp at hl
    rename_i x l2 hx hl2
    simp at hl; subst hl
    have hk : stepY x c fr h fa ys pd (fun fr h fa ys pd => opsY l2 c fr h fa ys pd k) = 0 := hk
    obtain ⟨fr1, h1, fa1, ys1, pd1, hk1, hfa1, h2⟩ := stepY_run hY hx hcall hM hh hfa hk
    obtain ⟨fr2, h2', fa2, ys2, pd2, hk2, hfa2, h3⟩ := opsY_run hY hcall hM hh r0 l2 fr1 h1 fa1 ys1 pd1 hl2 hfa1 hk1
    refine ⟨fr2, h2', fa2, ys2, pd2, hk2, hfa2, fun i r n ρ w a QQ hs hf hN hy hJ hq => ?_⟩
    have next : ∀ a1 w1, AtY E N (M i) (yvOf (lb i)) ρ h w fr1 h1 ys1 pd1 a1 w1 → wpListIn (Fd r) n P ops QQ r0 a1 w1 := by
      rintro a1 w1 ⟨ρ1, f1, n1, y1, s1, j1, x1⟩
      exact h3 i r n ρ1 w1 a1 QQ s1 f1 n1 y1 j1 (fun a' w' hA => hq a' w' (hA.trans x1))
    have h4 := h2 i r n ρ w a QQ hs hf hN hy hJ
    unfold OneIn at h4
    unfold wpListIn
    split at h4
    · rename_i hw
      rw [if_pos hw]
      exact uponIn_mono next h4
    · rename_i hw
      rw [if_neg hw]
      exact ⟨h4.1, next _ _ h4.2⟩
def RunsY (E : Env) (P : Program) (N : Nat) (M : ι → Md) (lb : ι → Nat) (rg : Bool) (c : Code) (fr : Fr) (h : H) (ys : List Ky) (pd : Pd) (k : KY) : Prop :=
  ∃ ae fr' h' fa' ys' pd', k ae fr' h' fa' ys' pd' = 0 ∧ FaOk E fa' ∧ ∀ i r n ρ w a QQ, (rg = true → r = none) → Sat E ρ h w → FrOk E ρ h.n.toNat fr (a : Act).tmps → N ≤ a.tmps.size → YS ys (yvOf (lb i)) a.tmps → (M i).J pd a.defers ρ h w →
    (∀ a' w', AtY E N (M i) (yvOf (lb i)) ρ h w fr' h' ys' pd' a' w' → QQ (AE.exit' ae) a' w') → c.wpIn (Fd r) n P QQ a w
theorem badY {c : YX} {fr : Fr} {h : H} {fa : Fa} {ys : List Ky} {pd : Pd} {k : KY} (hk : codeY .bad c fr h fa ys pd k = 0) : False := absurd (show (1 : Nat) = 0 from hk) (by simp)
theorem codeY_run {Y : Ty} (hY : TyOk P Y) {c : YX} (hcall : CallOk E P c.call) (hM : ∀ i, MdOk E (M i)) (hh : HandA E P M lb c.hand) {rg : Bool}
    (hrng : ∀ g ps x y fr h fa ys pd k, FaOk E fa → codeY (cCodeY Y N (.rangeFunc g ps x y)) c fr h fa ys pd k = 0 → RunsY E P N M lb rg (.rangeFunc g ps x y) fr h ys pd k) :
    ∀ (cd : Code) (fr : Fr) (h : H) (fa : Fa) (ys : List Ky) (pd : Pd) (k : KY), FaOk E fa → codeY (cCodeY Y N cd) c fr h fa ys pd k = 0 → RunsY E P N M lb rg cd fr h ys pd k
  | .skip, fr, h, fa, ys, pd, k, hfa, hk => ⟨.normal, fr, h, fa, ys, pd, hk, hfa, fun i r n ρ w a QQ hr hs hf hN hy hJ hQ => wpIn_skip (hQ _ _ ⟨ρ, hf, hN, hy, hs, hJ, Ext.refl ρ h _ (fun p o hp => (hs.bd p o hp).1)⟩)⟩
  | .ret, fr, h, fa, ys, pd, k, hfa, hk => ⟨.ret, fr, h, fa, ys, pd, hk, hfa, fun i r n ρ w a QQ hr hs hf hN hy hJ hQ => wpIn_ret (hQ _ _ ⟨ρ, hf, hN, hy, hs, hJ, Ext.refl ρ h _ (fun p o hp => (hs.bd p o hp).1)⟩)⟩
  | .exit j, fr, h, fa, ys, pd, k, hfa, hk => ⟨.exit j, fr, h, fa, ys, pd, hk, hfa, fun i r n ρ w a QQ hr hs hf hN hy hJ hQ => wpIn_exit (hQ _ _ ⟨ρ, hf, hN, hy, hs, hJ, Ext.refl ρ h _ (fun p o hp => (hs.bd p o hp).1)⟩)⟩
  | .seq x y, fr, h, fa, ys, pd, k, hfa, hk => by
    have hk : codeY (cCodeY Y N x) c fr h fa ys pd (fun e fr h fa ys pd => aeGo e (codeY (cCodeY Y N y) c fr h fa ys pd k) (k .ret fr h fa ys pd) (fun i => k (.exit i) fr h fa ys pd)) = 0 := hk
    obtain ⟨ae, fr1, h1, fa1, ys1, pd1, hk1, hfa1, r1⟩ := codeY_run hY hcall hM hh hrng x fr h fa ys pd _ hfa hk
    cases ae with
    | normal =>
      obtain ⟨ae, fr2, h2, fa2, ys2, pd2, hk2, hfa2, r2⟩ := codeY_run hY hcall hM hh hrng y fr1 h1 fa1 ys1 pd1 k hfa1 hk1
      refine ⟨ae, fr2, h2, fa2, ys2, pd2, hk2, hfa2, fun i r n ρ w a QQ hr hs hf hN hy hJ hQ => wpIn_seq (r1 i r n ρ w a _ hr hs hf hN hy hJ ?_)⟩
      rintro a1 w1 ⟨ρ1, f1, n1, y1, s1, j1, x1⟩
      exact r2 i r n ρ1 w1 a1 QQ hr s1 f1 n1 y1 j1 fun a' w' hA => hQ a' w' (hA.trans x1)
    | ret => exact ⟨.ret, fr1, h1, fa1, ys1, pd1, hk1, hfa1, fun i r n ρ w a QQ hr hs hf hN hy hJ hQ => wpIn_seq (r1 i r n ρ w a _ hr hs hf hN hy hJ hQ)⟩
    | exit j => exact ⟨.exit j, fr1, h1, fa1, ys1, pd1, hk1, hfa1, fun i r n ρ w a QQ hr hs hf hN hy hJ hQ => wpIn_seq (r1 i r n ρ w a _ hr hs hf hN hy hJ hQ)⟩
  | .cond o x y, fr, h, fa, ys, pd, k, hfa, hk => by
    cases o with
    | tmp t =>
      have hk : way fa (fr.get (keyOf t)) (fun b fa => bc b (codeY (cCodeY Y N x) c fr h fa ys pd k) (codeY (cCodeY Y N y) c fr h fa ys pd k)) 1 = 0 := hk
      obtain ⟨v, b, fa', hv, hb, hfa', hk⟩ := way_ok hk (by simp) hfa (fun _ => ⟨0, 0⟩)
      have hev : ∀ ρ n (a : Act), FrOk E ρ n fr a.tmps → a.eval (.tmp t) = .bool b := by
        intro ρ n a hf
        have h1 := (hf t v hv).1
        have h2 : v.γ E ρ = .bool b := by cases v <;> simp [V.γ] at hb ⊢ <;> exact hb
        simp [Act.eval, h1, h2]
      cases b with
      | true =>
        obtain ⟨ae, fr1, h1, fa1, ys1, pd1, hk1, hfa1, r1⟩ := codeY_run hY hcall hM hh hrng x fr h fa' ys pd k hfa' hk
        exact ⟨ae, fr1, h1, fa1, ys1, pd1, hk1, hfa1, fun i r n ρ w a QQ hr hs hf hN hy hJ hQ => wpIn_cond_true (hev ρ _ a hf) (r1 i r n ρ w a QQ hr hs hf hN hy hJ hQ)⟩
      | false =>
        obtain ⟨ae, fr1, h1, fa1, ys1, pd1, hk1, hfa1, r1⟩ := codeY_run hY hcall hM hh hrng y fr h fa' ys pd k hfa' hk
        exact ⟨ae, fr1, h1, fa1, ys1, pd1, hk1, hfa1, fun i r n ρ w a QQ hr hs hf hN hy hJ hQ => wpIn_cond_false (hev ρ _ a hf) (r1 i r n ρ w a QQ hr hs hf hN hy hJ hQ)⟩
    | _ => exact (badY hk).elim
  | .block j x, fr, h, fa, ys, pd, k, hfa, hk => by
    have hk : codeY (cCodeY Y N x) c fr h fa ys pd (fun e fr h fa ys pd => aeGo e (k .normal fr h fa ys pd) (k .ret fr h fa ys pd) (fun i => bc (Nat.beq i j) (k .normal fr h fa ys pd) (k (.exit i) fr h fa ys pd))) = 0 := hk
    obtain ⟨ae, fr1, h1, fa1, ys1, pd1, hk1, hfa1, r1⟩ := codeY_run hY hcall hM hh hrng x fr h fa ys pd _ hfa hk
    cases ae with
    | normal => exact ⟨.normal, fr1, h1, fa1, ys1, pd1, hk1, hfa1, fun i r n ρ w a QQ hr hs hf hN hy hJ hQ => wpIn_block (r1 i r n ρ w a _ hr hs hf hN hy hJ hQ)⟩
    | ret => exact ⟨.ret, fr1, h1, fa1, ys1, pd1, hk1, hfa1, fun i r n ρ w a QQ hr hs hf hN hy hJ hQ => wpIn_block (r1 i r n ρ w a _ hr hs hf hN hy hJ hQ)⟩
    | exit m =>
      have hk2 : bc (Nat.beq m j) (k .normal fr1 h1 fa1 ys1 pd1) (k (.exit m) fr1 h1 fa1 ys1 pd1) = 0 := hk1
      clear hk1
      cases hj : Nat.beq m j with
      | true =>
        rw [hj] at hk2
        have hj : m = j := by simpa using hj
        subst hj
        refine ⟨.normal, fr1, h1, fa1, ys1, pd1, hk2, hfa1, fun i r n ρ w a QQ hr hs hf hN hy hJ hQ => wpIn_block (r1 i r n ρ w a _ hr hs hf hN hy hJ fun a' w' hA => ?_)⟩
        show Exit.inBlock m _ (.exit m) a' w'
        simp only [Exit.inBlock, if_true]
        exact hQ a' w' hA
      | false =>
        rw [hj] at hk2
        have hj : ¬ m = j := by
          intro e; subst e; simp at hj
        refine ⟨.exit m, fr1, h1, fa1, ys1, pd1, hk2, hfa1, fun i r n ρ w a QQ hr hs hf hN hy hJ hQ => wpIn_block (r1 i r n ρ w a _ hr hs hf hN hy hJ fun a' w' hA => ?_)⟩
        show Exit.inBlock j _ (.exit m) a' w'
        simp only [Exit.inBlock, hj, if_false]
        exact hQ a' w' hA
  | .loop x, fr, h, fa, ys, pd, k, hfa, hk => by
    obtain ⟨lp, hlp⟩ : ∃ lp : Nat → Fr → H → Fa → List Ky → Pd → KY → Nat, lp = fun m => Nat.rec (motive := fun _ => Fr → H → Fa → List Ky → Pd → KY → Nat) (fun _ _ _ _ _ _ => 1)
      (fun _ ih fr h fa ys pd k => codeY (cCodeY Y N x) c fr h fa ys pd (fun e fr h fa ys pd => aeGo e (ih fr h fa ys pd k) (k .ret fr h fa ys pd) (fun i => k (.exit i) fr h fa ys pd))) m := ⟨_, rfl⟩
    have key : ∀ m fr h fa ys pd, FaOk E fa → lp m fr h fa ys pd k = 0 → ∃ ae fr' h' fa' ys' pd', k ae fr' h' fa' ys' pd' = 0 ∧ FaOk E fa' ∧ ∀ i r n ρ w a QQ, (rg = true → r = none) → Sat E ρ h w → FrOk E ρ h.n.toNat fr (a : Act).tmps → N ≤ a.tmps.size →
        YS ys (yvOf (lb i)) a.tmps → (M i).J pd a.defers ρ h w → (∀ a' w', AtY E N (M i) (yvOf (lb i)) ρ h w fr' h' ys' pd' a' w' → QQ (AE.exit' ae) a' w') → Code.roundsIn (Fd r) n P x QQ m a w := by
      intro m
      induction m with
      | zero => intro fr h fa ys pd hfa hk; subst hlp; exact absurd (show (1 : Nat) = 0 from hk) (by simp)
      | succ m ih =>
        intro fr h fa ys pd hfa hk
        have hk : codeY (cCodeY Y N x) c fr h fa ys pd (fun e fr h fa ys pd => aeGo e (lp m fr h fa ys pd k) (k .ret fr h fa ys pd) (fun i => k (.exit i) fr h fa ys pd)) = 0 := by subst hlp; exact hk
        obtain ⟨ae, fr1, h1, fa1, ys1, pd1, hk1, hfa1, r1⟩ := codeY_run hY hcall hM hh hrng x fr h fa ys pd _ hfa hk
        cases ae with
        | normal =>
          obtain ⟨ae, fr2, h2, fa2, ys2, pd2, hk2, hfa2, r2⟩ := ih fr1 h1 fa1 ys1 pd1 hfa1 hk1
          refine ⟨ae, fr2, h2, fa2, ys2, pd2, hk2, hfa2, fun i r n ρ w a QQ hr hs hf hN hy hJ hQ => ?_⟩
          rw [roundsIn_succ]
          refine r1 i r n ρ w a _ hr hs hf hN hy hJ ?_
          rintro a1 w1 ⟨ρ1, f1, n1, y1, s1, j1, x1⟩
          exact r2 i r n ρ1 w1 a1 QQ hr s1 f1 n1 y1 j1 fun a' w' hA => hQ a' w' (hA.trans x1)
        | ret => exact ⟨.ret, fr1, h1, fa1, ys1, pd1, hk1, hfa1, fun i r n ρ w a QQ hr hs hf hN hy hJ hQ => (by rw [roundsIn_succ]; exact r1 i r n ρ w a _ hr hs hf hN hy hJ hQ)⟩
        | exit j => exact ⟨.exit j, fr1, h1, fa1, ys1, pd1, hk1, hfa1, fun i r n ρ w a QQ hr hs hf hN hy hJ hQ => (by rw [roundsIn_succ]; exact r1 i r n ρ w a _ hr hs hf hN hy hJ hQ)⟩
    obtain ⟨ae, fr2, h2, fa2, ys2, pd2, hk2, hfa2, r2⟩ := key c.fuel fr h fa ys pd hfa (by subst hlp; exact hk)
    exact ⟨ae, fr2, h2, fa2, ys2, pd2, hk2, hfa2, fun i r n ρ w a QQ hr hs hf hN hy hJ hQ => wpIn_loop_rounds _ (r2 i r n ρ w a QQ hr hs hf hN hy hJ hQ)⟩
  | .region id ops false, fr, h, fa, ys, pd, k, hfa, hk => by
    simp only [cCodeY] at hk
    split at hk
    · rename_i l hl
      obtain ⟨fr2, h2', fa2, ys2, pd2, hk2, hfa2, ho⟩ := opsY_run hY hcall hM hh _ _ fr h fa ys pd hl hfa (show opsY l c fr h fa ys pd (fun fr h fa ys pd => k .normal fr h fa ys pd) = 0 from hk)
      exact ⟨.normal, fr2, h2', fa2, ys2, pd2, hk2, hfa2, fun i r n ρ w a QQ hr hs hf hN hy hJ hQ => wpIn_region_list (ho i r n ρ w a QQ hs hf hN hy hJ hQ)⟩
    · exact (badY hk).elim
  | .rangeFunc f ps x y, fr, h, fa, ys, pd, k, hfa, hk => hrng f ps x y fr h fa ys pd k hfa hk
  | .region id ops true, fr, h, fa, ys, pd, k, hfa, hk => (badY hk).elim
  | .scope x, fr, h, fa, ys, pd, k, hfa, hk => (badY hk).elim
  | .label l, fr, h, fa, ys, pd, k, hfa, hk => (badY hk).elim
  | .goto l, fr, h, fa, ys, pd, k, hfa, hk => (badY hk).elim
  | .refuse s, fr, h, fa, ys, pd, k, hfa, hk => (badY hk).elim
theorem nilL_ok {α : Type} {l : List α} (h : nilL l = true) : l = [] := by cases l with
  | nil => rfl
  | cons a r => cases h
theorem noItr_rng {Y : Ty} {c : YX} (hc : c.itr = noItr) {rg : Bool} : ∀ g ps x y fr h fa ys pd k, FaOk E fa → codeY (cCodeY Y N (.rangeFunc g ps x y)) c fr h fa ys pd k = 0 → RunsY E P N M lb rg (.rangeFunc g ps x y) fr h ys pd k := by
  intro g ps x y fr h fa ys pd k hfa hk
  exfalso
  simp only [cCodeY] at hk
  split at hk
  · split at hk
    · rename_i g' _ _
      obtain ⟨_, hk⟩ := bcF_ok (show bc (isSo pd) 1 (vFn (od g' fr) _ 1) = 0 from hk) (by simp)
      generalize od g' fr = q at hk
      unfold vFn at hk
      split at hk
      · obtain ⟨_, hk⟩ := bc_ok hk (by simp)
        rw [hc] at hk
        exact absurd (show (1 : Nat) = 0 from hk) (by simp)
      · cases hk
    · exact badY hk
  · exact badY hk
end Go.Ev
end
