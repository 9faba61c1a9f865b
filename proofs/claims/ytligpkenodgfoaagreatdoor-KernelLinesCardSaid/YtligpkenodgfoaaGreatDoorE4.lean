/-
  Ranges over a function: an iterator that calls yield, the rounds of a loop. Definitions.
-/
import Derived.Test.YtligpkenodgfoaaGreatDoorE3
import Derived.RangeFuncRecord
import Derived.RangeFuncLeaves
import Derived.RangeFuncSeq
import Derived.LoopNIn
import Derived.TacticsIn
import Derived.Scope
import Derived.Test.YtligpkenodgfoaaGreatDoorE1
import Derived.Defers
set_option linter.unusedSimpArgs false
set_option linter.unusedVariables false
noncomputable section
namespace Go.Ev
open Go
def N16.no (a : N16) : Nat := N16.rec (motive := fun _ => Nat) 0 1 2 3 4 5 6 7 8 9 10 11 12 13 14 15 a
def kyEq (a b : Ky) : Bool := match a, b with
  | .k1 a, .k1 b => Nat.beq a.no b.no
  | .k2 a b, .k2 c d => bc (Nat.beq a.no c.no) (Nat.beq b.no d.no) false
  | .k3 a b c, .k3 d e f => bc (Nat.beq a.no d.no) (bc (Nat.beq b.no e.no) (Nat.beq c.no f.no) false) false
  | .kn a, .kn b => Nat.beq a b
  | _, _ => false
def memY : List Ky → Ky → Bool
  | [], _ => false
  | a :: r, t => bc (kyEq a t) true (memY r t)
inductive YO where
  | mv (d t : Ky) (x : OI) | cl (d t : Ky) (l : List Od) (x : OI) | o (x : OI)
inductive YC where
  | skip | ret | exit (i : Nat) | seq (a b : YC) | cond (t : Ky) (a b : YC) | block (i : Nat) (a : YC) | loop (a : YC) | ops (l : List YO) | rng (g : Od) (ps : List Ky) (a b : YC) | bad
abbrev Pd := Option AE
abbrev KY := AE → Fr → H → Fa → List Ky → Pd → Nat
abbrev KY1 := Fr → H → Fa → List Ky → Pd → Nat
abbrev Hand := List V → H → Fa → (Bool → H → Fa → Pd → Nat) → Nat
abbrev ItrT := Hand → List V → H → Fa → (H → Fa → Pd → Nat) → Nat
structure YX where
  call : CallT
  F : Nat
  fuel : Nat
  hand : Hand
  itr : Nat → Option ItrT
abbrev SY := YX → Fr → H → Fa → List Ky → Pd → KY → Nat
def YX.x (c : YX) : Ctx := ⟨c.call, c.F, c.fuel⟩
def noHand : Hand := fun _ _ _ _ => 1
def noItr : Nat → Option ItrT := fun _ => none
/-- where its value goes is not where yield is -/
def dstOk (ys : List Ky) (x : OI) : Bool := OI.go (fun d _ _ => oc d (fun d => bc (memY ys d) false true) true) (fun d _ _ _ => oc d (fun d => bc (memY ys d) false true) true) x
def stepP (x : OI) (c : YX) (fr : Fr) (h : H) (fa : Fa) (ys : List Ky) (pd : Pd) (k : KY1) : Nat :=
  bc (dstOk ys x) (OI.go stepOp stepCall x c.x fr h fa (fun fr h fa => k fr h fa ys pd)) 1
def isSo {α : Type} (x : Option α) : Bool := oc x (fun _ => true) false
def stepY (x : YO) (c : YX) (fr : Fr) (h : H) (fa : Fa) (ys : List Ky) (pd : Pd) (k : KY1) : Nat := match x with
  | .mv d t x => bc (memY ys t) (bc (isSo (fr.get d)) 1 (k fr h fa (d :: ys) pd)) (stepP x c fr h fa ys pd k)
  | .cl d t l x => bc (memY ys t) (bc (memY ys d) 1 (bc (isSo pd) 1 (oc (ods l fr) (fun l => c.hand l h fa (fun b h fa pd => setF d fr (.b b) (fun fr => k fr h fa ys pd))) 1))) (stepP x c fr h fa ys pd k)
  | .o x => stepP x c fr h fa ys pd k
def opsY : List YO → YX → Fr → H → Fa → List Ky → Pd → KY1 → Nat
  | [], _, fr, h, fa, ys, pd, k => k fr h fa ys pd
  | x :: r, c, fr, h, fa, ys, pd, k => stepY x c fr h fa ys pd (fun fr h fa ys pd => opsY r c fr h fa ys pd k)
def bindPs : List Ky → List V → Fr → (Fr → Nat) → Nat
  | [], [], fr, k => k fr
  | p :: ps, v :: vs, fr, k => setF p fr v (fun fr => bindPs ps vs fr k)
  | _, _, _, _ => 1
/-- what a round is answered, by the way in which it was left -/
def endR (e : AE) (h : H) (fa : Fa) (k : Bool → H → Fa → Pd → Nat) : Nat := aeGo e (k true h fa none) (k false h fa (some .ret)) (fun i => k false h fa (some (.exit i)))
def roundT (c : YX) (fr : Fr) (ps : List Ky) (ra rb : SY) : Hand := fun l h fa k =>
  bindPs ps l fr (fun fr => ra ⟨c.call, c.F, c.fuel, noHand, noItr⟩ fr h fa [] none (fun e fr h fa _ pd => bc (isSo pd) 1 (aeGo e
    (rb ⟨c.call, c.F, c.fuel, noHand, noItr⟩ fr h fa [] none (fun e fr h fa _ pd => bc (isSo pd) 1 (endR e h fa k))) 1 (fun _ => 1))))
def behindT (pd : Pd) (k : AE → Pd → Nat) : Nat := match pd with
  | none => k .normal (some .normal)
  | some e => k e (some .normal)
def nilL {α : Type} (l : List α) : Bool := lCase true (fun _ _ => false) l
def codeY : YC → SY
  | .skip => fun _ fr h fa ys pd k => k .normal fr h fa ys pd
  | .ret => fun _ fr h fa ys pd k => k .ret fr h fa ys pd
  | .exit i => fun _ fr h fa ys pd k => k (.exit i) fr h fa ys pd
  | .seq a b => fun c fr h fa ys pd k => codeY a c fr h fa ys pd (fun e fr h fa ys pd => aeGo e (codeY b c fr h fa ys pd k) (k .ret fr h fa ys pd) (fun i => k (.exit i) fr h fa ys pd))
  | .cond t a b => fun c fr h fa ys pd k => way fa (fr.get t) (fun x fa => bc x (codeY a c fr h fa ys pd k) (codeY b c fr h fa ys pd k)) 1
  | .block i a => fun c fr h fa ys pd k => codeY a c fr h fa ys pd (fun e fr h fa ys pd => aeGo e (k .normal fr h fa ys pd) (k .ret fr h fa ys pd) (fun j => bc (Nat.beq j i) (k .normal fr h fa ys pd) (k (.exit j) fr h fa ys pd)))
  | .loop a => fun c => Nat.rec (motive := fun _ => Fr → H → Fa → List Ky → Pd → KY → Nat) (fun _ _ _ _ _ _ => 1)
      (fun _ ih fr h fa ys pd k => codeY a c fr h fa ys pd (fun e fr h fa ys pd => aeGo e (ih fr h fa ys pd k) (k .ret fr h fa ys pd) (fun i => k (.exit i) fr h fa ys pd))) c.fuel
  | .ops l => fun c fr h fa ys pd k => opsY l c fr h fa ys pd (fun fr h fa ys pd => k .normal fr h fa ys pd)
  | .rng g ps a b => fun c fr h fa ys pd k => bc (isSo pd) 1 (vFn (od g fr) (fun G pre caps => bc (nilL pre) (oc (c.itr G) (fun it =>
      it (roundT c fr ps (codeY a) (codeY b)) caps h fa (fun h fa pd => behindT pd (fun e pd => k e fr h fa ys pd))) 1) 1) 1)
  | .bad => fun _ _ _ _ _ _ _ => 1
/-! the code made ready -/
def cOperY (Y : Ty) (N : Nat) (all : List Oper) (o : Oper) : Option YO := match cOper Y N all o with
  | none => none
  | some x => match o.guard, o.dst, o.op with
    | none, some d, .move (.tmp t) => some (.mv (keyOf d) (keyOf t) x)
    | none, some d, .assign (.tmp t) => some (.mv (keyOf d) (keyOf t) x)
    | none, some d, .call cl => match cl.callee, cOds cl.args.toList with
      | .value (.tmp t), some l => some (.cl (keyOf d) (keyOf t) l x)
      | _, _ => some (.o x)
    | _, _, _ => some (.o x)
def cOpersY (Y : Ty) (N : Nat) (all : List Oper) : List Oper → Option (List YO)
  | [] => some []
  | o :: r => match cOperY Y N all o, cOpersY Y N all r with
    | some a, some b => some (a :: b)
    | _, _ => none
def cCodeY (Y : Ty) (N : Nat) : Code → Bool → YC
  | .skip, _ => .skip
  | .ret, _ => .ret
  | .exit i, _ => .exit i
  | .label _, _ => .skip
  | .seq a b, sc => .seq (cCodeY Y N a sc) (cCodeY Y N b sc)
  | .cond (.tmp t) a b, sc => .cond (keyOf t) (cCodeY Y N a sc) (cCodeY Y N b sc)
  | .block i a, sc => .block i (cCodeY Y N a sc)
  | .loop a, sc => .loop (cCodeY Y N a sc)
  | .scope a, sc => bc sc (cCodeY Y N a sc) .bad
  | .region _ ops false, _ => match cOpersY Y N ops.toList ops.toList with
    | some l => .ops l
    | none => .bad
  | .rangeFunc g ps a b, _ => match cOd g with
    | some g => if allB (fun p => Nat.blt p N) ps.toList then .rng g (ps.toList.map keyOf) (cCodeY Y N a false) (cCodeY Y N b false) else .bad
    | none => .bad
  | _, _ => .bad
/-- an iterator; a function that ranges -/
def itrT (yc : YC) (call : CallT) (F fuel : Nat) : ItrT := fun hand l h fa k => lRec initN initC l 1 .e (fun fr => codeY yc ⟨call, F, fuel, hand, noItr⟩ fr h fa [keyOf 0] none (fun e fr h fa _ pd => aeGo e (k h fa pd) (k h fa pd) (fun _ => 1)))
def rfnT (yc : YC) (rs : List IR) (call : CallT) (F fuel : Nat) (itr : Nat → Option ItrT) : List V → H → Fa → K → Nat := fun l h fa k =>
  initFr l (fun fr => codeY yc ⟨call, F, fuel, noHand, itr⟩ fr h fa [] none (fun e fr h fa _ _ => aeGo e (resT rs fr h (fun v => k v h fa) 1) (resT rs fr h (fun v => k v h fa) 1) (fun _ => 1)))
end Go.Ev
end
/-
  Ranges over a function: operations and code inside a fence, calls of yield among them.
-/
set_option linter.unusedSimpArgs false
set_option linter.unusedVariables false
noncomputable section
namespace Go.Ev
open Go
variable {E : Env} {P : Program} {N : Nat}
theorem N16.no_inj {a b : N16} (h : a.no = b.no) : a = b := by cases a <;> cases b <;> first | rfl | exact absurd h (by decide)
theorem bc_eqB (x y : Bool) : bc x y false = (x && y) := by cases x <;> rfl
theorem kyEq_iff (a b : Ky) : kyEq a b = true ↔ a = b := by
  cases a <;> cases b <;> simp only [kyEq, bc_eqB, Nat.beq_eq, Ky.k1.injEq, Ky.k2.injEq, Ky.k3.injEq, Ky.kn.injEq, reduceCtorEq, Bool.and_eq_true, Bool.false_eq_true]
  · exact ⟨N16.no_inj, fun e => by rw [e]⟩
  · exact ⟨fun ⟨h1, h2⟩ => ⟨N16.no_inj h1, N16.no_inj h2⟩, fun ⟨h1, h2⟩ => ⟨by rw [h1], by rw [h2]⟩⟩
  · exact ⟨fun ⟨h1, h2, h3⟩ => ⟨N16.no_inj h1, N16.no_inj h2, N16.no_inj h3⟩, fun ⟨h1, h2, h3⟩ => ⟨by rw [h1], by rw [h2], by rw [h3]⟩⟩
theorem memY_iff : ∀ (ys : List Ky) (t : Ky), memY ys t = true ↔ t ∈ ys
  | [], t => by simp [memY]
  | a :: r, t => by
    have e : memY (a :: r) t = bc (kyEq a t) true (memY r t) := rfl
    rw [e]
    cases h : kyEq a t with
    | true => simp [bc, (kyEq_iff a t).1 h]
    | false =>
      have : ¬ a = t := fun e => by rw [(kyEq_iff a t).2 e] at h; cases h
      simp [bc, memY_iff r t, Ne.symm this]
/-! ### fences -/
def Fd (r : Option Nat) : Fence := { Fence.wide with round := r }
theorem calls_fd {r : Option Nat} {n : Nat} {f : FuncId} {args : Array Value} {w : World} {R : Ending → World → Prop} (h : Calls P f args w R) : CallsIn (Fd r) n P f args w R :=
  (callsIn_wide (n := n)).2 h
theorem put_tmps (a : Act) (d : Option Tmp) (v : Value) : ((⟨a.tmps, []⟩ : Act).put d v).tmps = (a.put d v).tmps := by cases d <;> rfl
theorem put_defers (a : Act) (d : Option Tmp) (v : Value) : (a.put d v).defers = a.defers := by cases d <;> rfl
theorem op_in {r : Option Nat} {n : Nat} {o : Oper} {a : Act} {w : World} {K : Act → World → Prop} {Q : Exit → Act → World → Prop} (hnd : ∀ c, o.op ≠ .defer c) (hK : ∀ a w, K a w → a.defers = [])
    (h : o.wp P ⟨a.tmps, []⟩ w K (fun _ _ _ => False)) : o.wpIn (Fd r) n P a w (fun a' w' => ∃ v, K ((⟨a.tmps, []⟩ : Act).put o.dst v) w' ∧ a' = a.put o.dst v) Q := by
  unfold Oper.wpIn
  refine ⟨fun _ _ => trivial, ?_⟩
  rw [show o.semAt (Fd r).round a.eval = execOp a.eval o from Oper.semAt_eq r a.eval o hnd]
  have he : (⟨a.tmps, []⟩ : Act).eval = a.eval := by funext x; cases x <;> rfl
  unfold Oper.wp at h
  rw [he] at h
  revert h
  generalize (execOp a.eval o).run P w = res
  intro h
  unfold Oper.upon at h
  split at h
  · exact ⟨_, h, rfl⟩
  · exact ⟨_, h, rfl⟩
  · have := hK _ _ h
    rw [put_defers] at this
    cases this
  · refine ⟨fun h => by simp [Fd, Fence.wide] at h, (calls_fd h).mono ?_⟩
    intro e w2 he
    cases e with
    | returned v => exact ⟨_, he, rfl⟩
    | panicked c => exact he.elim
    | outgrown => obtain ⟨_, _, hf⟩ := he; exact hf.elim
  · refine ⟨fun h => by simp [Fd, Fence.wide] at h, fun c cs _ => ?_⟩
    obtain ⟨v, w2, hh, hs⟩ := h c cs
    exact ⟨v, w2, ⟨_, hh, rfl⟩, stepsIn_wide.2 hs⟩
  · exact h.elim
  · exact h.elim
theorem cOper_nd {Y : Ty} {all : List Oper} {o : Oper} {x : OI} (hx : cOper Y N all o = some x) : ∀ c, o.op ≠ .defer c := by
  intro c hc
  obtain ⟨d, g, _, _, h⟩ := cOper_ok hx
  rcases h with ⟨i, hi, _⟩ | ⟨cl, _, _, _, hop, _⟩
  · rw [hc] at hi; simp [cOp] at hi
  · rw [hc] at hop; cases hop
/-! ### modes: what is kept beside the things -/
structure Md where
  m : World → World
  J : Pd → List Deferred → Rho → H → World → Prop
structure MdOk (E : Env) (M : Md) : Prop where
  step : ∀ {pd ds ρ h w ρ' h' w'}, Sat E ρ h w → Sat E ρ' h' w' → Ext ρ h w ρ' h' w' → M.J pd ds ρ h w → M.J pd ds ρ' h' w' ∧ Ext ρ h (M.m w) ρ' h' (M.m w')
def YS (ys : List Ky) (yv : Value) (tmps : Array Value) : Prop := ∀ t, keyOf t ∈ ys → tmps[t]? = some yv
def AtY (E : Env) (N : Nat) (M : Md) (yv : Value) (ρ : Rho) (h : H) (w : World) (fr' : Fr) (h' : H) (ys' : List Ky) (pd' : Pd) (a' : Act) (w' : World) : Prop :=
  ∃ ρ', FrOk E ρ' h'.n.toNat fr' a'.tmps ∧ N ≤ a'.tmps.size ∧ YS ys' yv a'.tmps ∧ Sat E ρ' h' w' ∧ M.J pd' a'.defers ρ' h' w' ∧ Ext ρ h (M.m w) ρ' h' (M.m w')
theorem AtY.trans {M : Md} {yv : Value} {ρ ρ1 : Rho} {h h1 : H} {w w1 : World} (hx : Ext ρ h (M.m w) ρ1 h1 (M.m w1)) {fr : Fr} {h' : H} {ys : List Ky} {pd : Pd} {a : Act} {w' : World} (s : AtY E N M yv ρ1 h1 w1 fr h' ys pd a w') : AtY E N M yv ρ h w fr h' ys pd a w' := by
  obtain ⟨ρ', a1, a2, a3, a4, a5, a6⟩ := s
  exact ⟨ρ', a1, a2, a3, a4, a5, hx.trans a6⟩
def yvOf (l : Nat) : Value := .func (.yield l) #[] #[]
/-- what a hand does: a round -/
def HandA {ι : Type} (E : Env) (P : Program) (M : ι → Md) (lb : ι → Nat) (hand : Hand) : Prop := ∀ l h fa k, hand l h fa k = 0 → FaOk E fa → ∃ b h' fa' pd', k b h' fa' pd' = 0 ∧ FaOk E fa' ∧
  ∀ i n ρ w ds, bdL h.n.toNat l → Sat E ρ h w → (M i).J none ds ρ h w → YieldAt Fence.wide n P (lb i) (γL E ρ l).toArray w fun e w' =>
    e = .returned (.bool b) ∧ ∃ ρ', Sat E ρ' h' w' ∧ (M i).J pd' ds ρ' h' w' ∧ Ext ρ h ((M i).m w) ρ' h' ((M i).m w')
theorem noHand_ok {ι : Type} {M : ι → Md} {lb : ι → Nat} : HandA E P M lb noHand := fun l h fa k hk => absurd (show (1 : Nat) = 0 from hk) (by simp)
def OneIn (r : Option Nat) (n : Nat) (P : Program) (ops : Array Oper) (o : Oper) (a : Act) (w : World) (K : Act → World → Prop) (Q : Exit → Act → World → Prop) : Prop :=
  if Region.wanted o (yielded ops a.tmps) = true then o.wpIn (Fd r) n P a w K Q else (∀ f, o.about P w a.eval = some f → (Fd r).fn f) ∧ K (a.put o.dst undef) w
theorem uponIn_mono {F : Fence} {n : Nat} {o : Oper} {a : Act} {w : World} {K K' : Act → World → Prop} {Q : Exit → Act → World → Prop} (hK : ∀ a w, K a w → K' a w) (h : o.wpIn F n P a w K Q) : o.wpIn F n P a w K' Q := by
  unfold Oper.wpIn at h ⊢
  refine ⟨h.1, ?_⟩
  have h := h.2
  revert h
  generalize (o.semAt F.round a.eval).run P w = res
  intro h
  unfold Oper.uponIn at h ⊢
  split at h
  · exact hK _ _ h
  · exact hK _ _ h
  · exact hK _ _ h
  · exact ⟨h.1, h.2.mono fun e w' he => by cases e <;> first | exact hK _ _ he | exact he⟩
  · exact ⟨h.1, h.2.mono fun v w' he => hK _ _ he⟩
  · exact ⟨h.1, h.2.mono fun e w' he => by cases e <;> first | exact hK _ _ he | exact he⟩
  · exact h
  · exact h.elim
theorem ys_put {ys : List Ky} {yv : Value} {a : Act} {d : Option Tmp} {v : Value} (hy : YS ys yv a.tmps) (hd : ∀ t, d = some t → keyOf t ∉ ys) : YS ys yv (a.put d v).tmps := by
  intro t ht
  cases d with
  | none => exact hy t ht
  | some t0 =>
    have hne : t0 ≠ t := fun e => hd t0 rfl (by rw [e]; exact ht)
    show (a.tmps.setIfInBounds t0 v)[t]? = some yv
    rw [Array.getElem?_setIfInBounds, if_neg hne]
    exact hy t ht
section
variable {ι : Type} {M : ι → Md} {lb : ι → Nat}
theorem dstOk_of {Y : Ty} {all : List Oper} {o : Oper} {x : OI} (hx : cOper Y N all o = some x) {ys : List Ky} (h : dstOk ys x = true) : ∀ t, o.dst = some t → keyOf t ∉ ys := by
  intro t ht hm
  obtain ⟨d, g, hd, _, hh⟩ := cOper_ok hx
  rw [ht] at hd
  simp only [cDst] at hd
  split at hd
  · simp at hd; subst hd
    have : memY ys (keyOf t) = true := (memY_iff _ _).2 hm
    rcases hh with ⟨i, _, rfl⟩ | ⟨cl, _, _, _, _, _, _, _, rfl⟩
    · have h : bc (memY ys (keyOf t)) false true = true := h
      rw [this] at h; cases h
    · have h : bc (memY ys (keyOf t)) false true = true := h
      rw [this] at h; cases h
  · simp at hd
theorem stepP_run {Y : Ty} (hY : TyOk P Y) {ops : Array Oper} {o : Oper} {x : OI} (hx : cOper Y N ops.toList o = some x) {c : YX} (hcall : CallOk E P c.call) (hM : ∀ i, MdOk E (M i))
    {fr : Fr} {h : H} {fa : Fa} {ys : List Ky} {pd : Pd} {k : KY1} (hfa : FaOk E fa) (hk : stepP x c fr h fa ys pd k = 0) :
    ∃ fr' h' fa' ys' pd', k fr' h' fa' ys' pd' = 0 ∧ FaOk E fa' ∧ ∀ i r n ρ w a Q, Sat E ρ h w → FrOk E ρ h.n.toNat fr (a : Act).tmps → N ≤ a.tmps.size → YS ys (yvOf (lb i)) a.tmps → (M i).J pd a.defers ρ h w →
      OneIn r n P ops o a w (AtY E N (M i) (yvOf (lb i)) ρ h w fr' h' ys' pd') Q := by
  obtain ⟨hd, hk⟩ := bc_ok (show bc (dstOk ys x) _ 1 = 0 from hk) (by simp)
  have hd := dstOk_of hx hd
  obtain ⟨fr', h', fa', hk, hfa', hrun⟩ := step_run hY hx (c := c.x) hcall hfa hk
  refine ⟨fr', h', fa', ys, pd, hk, hfa', fun i r n ρ w a Q hs hf hN hy hJ => ?_⟩
  have fin : ∀ v w', At E N [] ρ h w fr' h' ((⟨a.tmps, []⟩ : Act).put o.dst v) w' → AtY E N (M i) (yvOf (lb i)) ρ h w fr' h' ys pd (a.put o.dst v) w' := by
    rintro v w' ⟨ρ', f1, n1, d1, s1, x1⟩
    rw [put_tmps] at f1 n1
    obtain ⟨j1, x2⟩ := (hM i).step hs s1 x1 hJ
    exact ⟨ρ', f1, n1, ys_put hy hd, s1, by rw [put_defers]; exact j1, x2⟩
  unfold OneIn
  rcases hrun ρ w ⟨a.tmps, []⟩ (fun _ _ _ => False) hs hf hN rfl with ⟨hw, hwp⟩ | ⟨hw, hA⟩
  · rw [if_pos hw]
    refine uponIn_mono ?_ (op_in (cOper_nd hx) (fun a w hA => hA.choose_spec.2.2.1) hwp)
    rintro a' w' ⟨v, hv, rfl⟩
    exact fin v w' hv
  · have hw : Region.wanted o (yielded ops a.tmps) = false := hw
    rw [if_neg (by simp [hw])]
    exact ⟨fun _ _ => trivial, fin undef w hA⟩
theorem isSo_false {α : Type} {x : Option α} (h : isSo x = false) : x = none := by cases x with
  | none => rfl
  | some a => cases h
theorem bcF_ok {x : Bool} {a e : Nat} (h : bc x e a = 0) (he : e ≠ 0) : x = false ∧ a = 0 := by
  cases x with
  | false => exact ⟨rfl, h⟩
  | true => exact absurd h he
theorem cDst_some {t : Nat} {d : Option Ky} (h : cDst N (some t) = some d) : t < N := by
  simp only [cDst] at h
  split at h
  · rename_i hh; simpa using hh
  · simp at h
theorem mv_run {o : Oper} {t : Nat} (hop : o.op = .move (.tmp t) ∨ o.op = .assign (.tmp t)) (a : Act) (w : World) : (execOp a.eval o).run P w = .ok (.value (a.eval (.tmp t))) w := by
  rcases hop with h | h <;> simp [execOp, h]
theorem stepY_run {Y : Ty} (hY : TyOk P Y) {ops : Array Oper} {o : Oper} {x : YO} (hx : cOperY Y N ops.toList o = some x) {c : YX} (hcall : CallOk E P c.call) (hM : ∀ i, MdOk E (M i)) (hh : HandA E P M lb c.hand)
    {fr : Fr} {h : H} {fa : Fa} {ys : List Ky} {pd : Pd} {k : KY1} (hfa : FaOk E fa) (hk : stepY x c fr h fa ys pd k = 0) :
    ∃ fr' h' fa' ys' pd', k fr' h' fa' ys' pd' = 0 ∧ FaOk E fa' ∧ ∀ i r n ρ w a Q, Sat E ρ h w → FrOk E ρ h.n.toNat fr (a : Act).tmps → N ≤ a.tmps.size → YS ys (yvOf (lb i)) a.tmps → (M i).J pd a.defers ρ h w →
      OneIn r n P ops o a w (AtY E N (M i) (yvOf (lb i)) ρ h w fr' h' ys' pd') Q := by
  unfold cOperY at hx
  split at hx
  · simp at hx
  rename_i x0 hx0
  have plain : ∀ k', stepP x0 c fr h fa ys pd k = 0 → _ := fun (k' : Unit) hk => stepP_run (M := M) (lb := lb) hY hx0 hcall hM hfa hk
  have mv : ∀ d t, o.guard = none → o.dst = some d → (o.op = .move (.tmp t) ∨ o.op = .assign (.tmp t)) → stepY (.mv (keyOf d) (keyOf t) x0) c fr h fa ys pd k = 0 → _ := fun d t hg hdst hop hk => by
    have hk : bc (memY ys (keyOf t)) (bc (isSo (fr.get (keyOf d))) 1 (k fr h fa (keyOf d :: ys) pd)) (stepP x0 c fr h fa ys pd k) = 0 := hk
    cases hm : memY ys (keyOf t) with
    | false => rw [hm] at hk; exact plain () hk
    | true =>
      rw [hm] at hk
      obtain ⟨hd0, hk⟩ := bcF_ok (show bc (isSo (fr.get (keyOf d))) 1 _ = 0 from hk) (by simp)
      have hd0 := isSo_false hd0
      have hlt : d < N := by
        obtain ⟨d', g', hd', _⟩ := cOper_ok hx0
        rw [hdst] at hd'
        exact cDst_some hd'
      refine ⟨fr, h, fa, keyOf d :: ys, pd, hk, hfa, fun i r n ρ w a Q hs hf hN hy hJ => ?_⟩
      have hyt := hy t ((memY_iff _ _).1 hm)
      unfold OneIn
      rw [if_pos (by simp [Region.wanted, hg])]
      unfold Oper.wpIn
      refine ⟨fun _ _ => trivial, ?_⟩
      rw [show o.semAt (Fd r).round a.eval = execOp a.eval o from Oper.semAt_eq r a.eval o (cOper_nd hx0), mv_run hop]
      show AtY E N (M i) (yvOf (lb i)) ρ h w fr h (keyOf d :: ys) pd (a.put o.dst (a.eval (.tmp t))) w
      have hev : a.eval (.tmp t) = yvOf (lb i) := by simp [Act.eval, hyt]
      rw [hev, hdst]
      have hds : d < a.tmps.size := Nat.lt_of_lt_of_le hlt hN
      refine ⟨ρ, fun s v hv => ?_, by simpa [Act.put] using hN, fun s hs2 => ?_, hs, hJ, Ext.refl ρ h _ (fun p o hp => (hs.bd p o hp).1)⟩
      · have hsd : d ≠ s := fun e => by subst e; rw [hd0] at hv; cases hv
        obtain ⟨g1, g2⟩ := hf s v hv
        refine ⟨?_, g2⟩
        show (a.tmps.setIfInBounds d (yvOf (lb i)))[s]? = _
        rw [Array.getElem?_setIfInBounds, if_neg hsd]; exact g1
      · show (a.tmps.setIfInBounds d (yvOf (lb i)))[s]? = _
        rw [Array.getElem?_setIfInBounds]
        by_cases hsd : d = s
        · rw [if_pos hsd, if_pos hds]
        · rw [if_neg hsd]
          rcases List.mem_cons.1 hs2 with e | e
          · exact absurd (key_inj e).symm hsd
          · exact hy s e
  split at hx
  · rename_i d t hg hdst hop
    simp at hx; subst hx
    exact mv d t hg hdst (.inl hop) hk
  · rename_i d t hg hdst hop
    simp at hx; subst hx
    exact mv d t hg hdst (.inr hop) hk
  · rename_i d cl hg hdst hop
    split at hx
    · rename_i t l hcal hl
      simp at hx; subst hx
      have hk : bc (memY ys (keyOf t)) (bc (memY ys (keyOf d)) 1 (bc (isSo pd) 1 (oc (ods l fr) (fun l => c.hand l h fa (fun b h fa pd => setF (keyOf d) fr (.b b) (fun fr => k fr h fa ys pd))) 1))) (stepP x0 c fr h fa ys pd k) = 0 := hk
      cases hm : memY ys (keyOf t) with
      | false => rw [hm] at hk; exact plain () hk
      | true =>
        rw [hm] at hk
        obtain ⟨hd0, hk⟩ := bcF_ok (show bc (memY ys (keyOf d)) 1 _ = 0 from hk) (by simp)
        obtain ⟨hp0, hk⟩ := bcF_ok hk (by simp)
        have hp0 := isSo_false hp0
        subst hp0
        obtain ⟨vs, hvs, hk⟩ := oc_ok hk (by simp)
        obtain ⟨b, h', fa', pd', hk, hfa', hrun⟩ := hh vs h fa _ hk hfa
        obtain ⟨fr', hk, g1, g2⟩ := setF_ok hk
        have hlt : d < N := by
          obtain ⟨d', g', hd', _⟩ := cOper_ok hx0
          rw [hdst] at hd'
          exact cDst_some hd'
        refine ⟨fr', h', fa', ys, pd', hk, hfa', fun i r n ρ w a Q hs hf hN hy hJ => ?_⟩
        have hyt := hy t ((memY_iff _ _).1 hm)
        obtain ⟨e2, b2⟩ := ods_run hf hl hvs
        have hargs : cl.args.map a.eval = (γL E ρ vs).toArray := Array.toList_inj.1 (by rw [Array.toList_map]; exact e2)
        obtain ⟨fn, tmps, asg, body, hyd, hround⟩ := hrun i (n - 1) ρ w a.defers b2 hs hJ
        unfold OneIn
        rw [if_pos (by simp [Region.wanted, hg])]
        unfold Oper.wpIn
        refine ⟨fun _ _ => trivial, ?_⟩
        have hex : (execOp a.eval o).run P w = .ok (.round (lb i) fn tmps asg body) w := by
          rw [← hyd]
          simp [execOp, hop, resolve, hcal, Act.eval, hyt, yvOf, Deferred.ofValue, invoke, hargs]
        rw [show o.semAt (Fd r).round a.eval = execOp a.eval o from Oper.semAt_eq r a.eval o (cOper_nd hx0), hex, Oper.uponIn_round]
        refine ⟨fun h => by simp [Fd, Fence.wide] at h, RoundIn.mono hround ?_⟩
        rintro e w' ⟨rfl, ρ', s1, j1, x1⟩
        show AtY E N (M i) (yvOf (lb i)) ρ h w fr' h' ys pd' (a.put o.dst (.bool b)) w'
        have hds : d < a.tmps.size := Nat.lt_of_lt_of_le hlt hN
        refine ⟨ρ', ?_, by rw [hdst]; simpa [Act.put] using hN, ys_put hy (fun t0 e => by rw [hdst] at e; cases e; intro hmem; rw [(memY_iff _ _).2 hmem] at hd0; cases hd0), s1, by rw [put_defers]; exact j1, x1⟩
        rw [hdst]
        exact (hf.mono x1.len x1.agree).set (v := .b b) hds trivial g1 g2
    · simp at hx; subst hx
      exact plain () hk
  · simp at hx; subst hx
    exact plain () hk
end
end Go.Ev
end
/-
  Ranges over a function: code, the rounds of a loop, the loop, the functions.
-/
set_option linter.unusedSimpArgs false
set_option linter.unusedVariables false
noncomputable section
namespace Go.Ev
open Go
variable {E : Env} {P : Program} {N : Nat} {ι : Type} {M : ι → Md} {lb : ι → Nat}
theorem opsY_run {Y : Ty} (hY : TyOk P Y) {ops : Array Oper} {c : YX} (hcall : CallOk E P c.call) (hM : ∀ i, MdOk E (M i)) (hh : HandA E P M lb c.hand) {k : KY1} : ∀ (l : List Oper) (l' : List YO) (fr : Fr) (h : H) (fa : Fa) (ys : List Ky) (pd : Pd),
    cOpersY Y N ops.toList l = some l' → FaOk E fa → opsY l' c fr h fa ys pd k = 0 →
    ∃ fr' h' fa' ys' pd', k fr' h' fa' ys' pd' = 0 ∧ FaOk E fa' ∧ ∀ i r n ρ w a QQ, Sat E ρ h w → FrOk E ρ h.n.toNat fr (a : Act).tmps → N ≤ a.tmps.size → YS ys (yvOf (lb i)) a.tmps → (M i).J pd a.defers ρ h w →
      (∀ a' w', AtY E N (M i) (yvOf (lb i)) ρ h w fr' h' ys' pd' a' w' → QQ .normal a' w') → wpListIn (Fd r) n P ops QQ l a w
  | [], l', fr, h, fa, ys, pd, hl, hfa, hk => by
    simp [cOpersY] at hl; subst hl
    exact ⟨fr, h, fa, ys, pd, hk, hfa, fun i r n ρ w a QQ hs hf hN hy hJ hq => hq a w ⟨ρ, hf, hN, hy, hs, hJ, Ext.refl ρ h _ (fun p o hp => (hs.bd p o hp).1)⟩⟩
  | o :: r0, l', fr, h, fa, ys, pd, hl, hfa, hk => by
    simp only [cOpersY] at hl
    split at hl
    rotate_left
    · simp at hl
    rename_i x l2 hx hl2
    simp at hl; subst hl
    have hk : stepY x c fr h fa ys pd (fun fr h fa ys pd => opsY l2 c fr h fa ys pd k) = 0 := hk
    obtain ⟨fr1, h1, fa1, ys1, pd1, hk1, hfa1, h2⟩ := stepY_run hY hx hcall hM hh hfa hk
    obtain ⟨fr2, h2', fa2, ys2, pd2, hk2, hfa2, h3⟩ := opsY_run hY hcall hM hh r0 l2 fr1 h1 fa1 ys1 pd1 hl2 hfa1 hk1
    refine ⟨fr2, h2', fa2, ys2, pd2, hk2, hfa2, fun i r n ρ w a QQ hs hf hN hy hJ hq => ?_⟩
    have next : ∀ a1 w1, AtY E N (M i) (yvOf (lb i)) ρ h w fr1 h1 ys1 pd1 a1 w1 → wpListIn (Fd r) n P ops QQ r0 a1 w1 := by
      rintro a1 w1 ⟨ρ1, f1, n1, y1, s1, j1, x1⟩
      exact h3 i r n ρ1 w1 a1 QQ s1 f1 n1 y1 j1 (fun a' w' hA => hq a' w' (hA.trans x1))
    have h4 := h2 i r n ρ w a QQ hs hf hN hy hJ
    unfold OneIn at h4
    unfold wpListIn
    split at h4
    · rename_i hw
      rw [if_pos hw]
      exact uponIn_mono next h4
    · rename_i hw
      rw [if_neg hw]
      exact ⟨h4.1, next _ _ h4.2⟩
def RunsY (E : Env) (P : Program) (N : Nat) (M : ι → Md) (lb : ι → Nat) (rg : Bool) (c : Code) (fr : Fr) (h : H) (ys : List Ky) (pd : Pd) (k : KY) : Prop :=
  ∃ ae fr' h' fa' ys' pd', k ae fr' h' fa' ys' pd' = 0 ∧ FaOk E fa' ∧ ∀ i r n ρ w a QQ, (rg = true → r = none) → Sat E ρ h w → FrOk E ρ h.n.toNat fr (a : Act).tmps → N ≤ a.tmps.size → YS ys (yvOf (lb i)) a.tmps → (M i).J pd a.defers ρ h w →
    (∀ a' w', AtY E N (M i) (yvOf (lb i)) ρ h w fr' h' ys' pd' a' w' → QQ (AE.exit' ae) a' w') → c.wpIn (Fd r) n P QQ a w
theorem badY {c : YX} {fr : Fr} {h : H} {fa : Fa} {ys : List Ky} {pd : Pd} {k : KY} (hk : codeY .bad c fr h fa ys pd k = 0) : False := absurd (show (1 : Nat) = 0 from hk) (by simp)
theorem codeY_run {Y : Ty} (hY : TyOk P Y) {c : YX} (hcall : CallOk E P c.call) (hM : ∀ i, MdOk E (M i)) (hh : HandA E P M lb c.hand) {rg sc : Bool} (hsc : sc = true → rg = true)
    (hrng : ∀ g ps x y fr h fa ys pd k, FaOk E fa → codeY (cCodeY Y N (.rangeFunc g ps x y) sc) c fr h fa ys pd k = 0 → RunsY E P N M lb rg (.rangeFunc g ps x y) fr h ys pd k) :
    ∀ (cd : Code) (fr : Fr) (h : H) (fa : Fa) (ys : List Ky) (pd : Pd) (k : KY), FaOk E fa → codeY (cCodeY Y N cd sc) c fr h fa ys pd k = 0 → RunsY E P N M lb rg cd fr h ys pd k
  | .skip, fr, h, fa, ys, pd, k, hfa, hk => ⟨.normal, fr, h, fa, ys, pd, hk, hfa, fun i r n ρ w a QQ hr hs hf hN hy hJ hQ => wpIn_skip (hQ _ _ ⟨ρ, hf, hN, hy, hs, hJ, Ext.refl ρ h _ (fun p o hp => (hs.bd p o hp).1)⟩)⟩
  | .ret, fr, h, fa, ys, pd, k, hfa, hk => ⟨.ret, fr, h, fa, ys, pd, hk, hfa, fun i r n ρ w a QQ hr hs hf hN hy hJ hQ => wpIn_ret (hQ _ _ ⟨ρ, hf, hN, hy, hs, hJ, Ext.refl ρ h _ (fun p o hp => (hs.bd p o hp).1)⟩)⟩
  | .exit j, fr, h, fa, ys, pd, k, hfa, hk => ⟨.exit j, fr, h, fa, ys, pd, hk, hfa, fun i r n ρ w a QQ hr hs hf hN hy hJ hQ => wpIn_exit (hQ _ _ ⟨ρ, hf, hN, hy, hs, hJ, Ext.refl ρ h _ (fun p o hp => (hs.bd p o hp).1)⟩)⟩
  | .seq x y, fr, h, fa, ys, pd, k, hfa, hk => by
    have hk : codeY (cCodeY Y N x sc) c fr h fa ys pd (fun e fr h fa ys pd => aeGo e (codeY (cCodeY Y N y sc) c fr h fa ys pd k) (k .ret fr h fa ys pd) (fun i => k (.exit i) fr h fa ys pd)) = 0 := hk
    obtain ⟨ae, fr1, h1, fa1, ys1, pd1, hk1, hfa1, r1⟩ := codeY_run hY hcall hM hh hsc hrng x fr h fa ys pd _ hfa hk
    cases ae with
    | normal =>
      obtain ⟨ae, fr2, h2, fa2, ys2, pd2, hk2, hfa2, r2⟩ := codeY_run hY hcall hM hh hsc hrng y fr1 h1 fa1 ys1 pd1 k hfa1 hk1
      refine ⟨ae, fr2, h2, fa2, ys2, pd2, hk2, hfa2, fun i r n ρ w a QQ hr hs hf hN hy hJ hQ => wpIn_seq (r1 i r n ρ w a _ hr hs hf hN hy hJ ?_)⟩
      rintro a1 w1 ⟨ρ1, f1, n1, y1, s1, j1, x1⟩
      exact r2 i r n ρ1 w1 a1 QQ hr s1 f1 n1 y1 j1 fun a' w' hA => hQ a' w' (hA.trans x1)
    | ret => exact ⟨.ret, fr1, h1, fa1, ys1, pd1, hk1, hfa1, fun i r n ρ w a QQ hr hs hf hN hy hJ hQ => wpIn_seq (r1 i r n ρ w a _ hr hs hf hN hy hJ hQ)⟩
    | exit j => exact ⟨.exit j, fr1, h1, fa1, ys1, pd1, hk1, hfa1, fun i r n ρ w a QQ hr hs hf hN hy hJ hQ => wpIn_seq (r1 i r n ρ w a _ hr hs hf hN hy hJ hQ)⟩
  | .cond o x y, fr, h, fa, ys, pd, k, hfa, hk => by
    cases o with
    | tmp t =>
      have hk : way fa (fr.get (keyOf t)) (fun b fa => bc b (codeY (cCodeY Y N x sc) c fr h fa ys pd k) (codeY (cCodeY Y N y sc) c fr h fa ys pd k)) 1 = 0 := hk
      obtain ⟨v, b, fa', hv, hb, hfa', hk⟩ := way_ok hk (by simp) hfa (fun _ => ⟨0, 0⟩)
      have hev : ∀ ρ n (a : Act), FrOk E ρ n fr a.tmps → a.eval (.tmp t) = .bool b := by
        intro ρ n a hf
        have h1 := (hf t v hv).1
        have h2 : v.γ E ρ = .bool b := by cases v <;> simp [V.γ] at hb ⊢ <;> exact hb
        simp [Act.eval, h1, h2]
      cases b with
      | true =>
        obtain ⟨ae, fr1, h1, fa1, ys1, pd1, hk1, hfa1, r1⟩ := codeY_run hY hcall hM hh hsc hrng x fr h fa' ys pd k hfa' hk
        exact ⟨ae, fr1, h1, fa1, ys1, pd1, hk1, hfa1, fun i r n ρ w a QQ hr hs hf hN hy hJ hQ => wpIn_cond_true (hev ρ _ a hf) (r1 i r n ρ w a QQ hr hs hf hN hy hJ hQ)⟩
      | false =>
        obtain ⟨ae, fr1, h1, fa1, ys1, pd1, hk1, hfa1, r1⟩ := codeY_run hY hcall hM hh hsc hrng y fr h fa' ys pd k hfa' hk
        exact ⟨ae, fr1, h1, fa1, ys1, pd1, hk1, hfa1, fun i r n ρ w a QQ hr hs hf hN hy hJ hQ => wpIn_cond_false (hev ρ _ a hf) (r1 i r n ρ w a QQ hr hs hf hN hy hJ hQ)⟩
    | _ => exact (badY hk).elim
  | .block j x, fr, h, fa, ys, pd, k, hfa, hk => by
    have hk : codeY (cCodeY Y N x sc) c fr h fa ys pd (fun e fr h fa ys pd => aeGo e (k .normal fr h fa ys pd) (k .ret fr h fa ys pd) (fun i => bc (Nat.beq i j) (k .normal fr h fa ys pd) (k (.exit i) fr h fa ys pd))) = 0 := hk
    obtain ⟨ae, fr1, h1, fa1, ys1, pd1, hk1, hfa1, r1⟩ := codeY_run hY hcall hM hh hsc hrng x fr h fa ys pd _ hfa hk
    cases ae with
    | normal => exact ⟨.normal, fr1, h1, fa1, ys1, pd1, hk1, hfa1, fun i r n ρ w a QQ hr hs hf hN hy hJ hQ => wpIn_block (r1 i r n ρ w a _ hr hs hf hN hy hJ hQ)⟩
    | ret => exact ⟨.ret, fr1, h1, fa1, ys1, pd1, hk1, hfa1, fun i r n ρ w a QQ hr hs hf hN hy hJ hQ => wpIn_block (r1 i r n ρ w a _ hr hs hf hN hy hJ hQ)⟩
    | exit m =>
      have hk2 : bc (Nat.beq m j) (k .normal fr1 h1 fa1 ys1 pd1) (k (.exit m) fr1 h1 fa1 ys1 pd1) = 0 := hk1
      clear hk1
      cases hj : Nat.beq m j with
      | true =>
        rw [hj] at hk2
        have hj : m = j := by simpa using hj
        subst hj
        refine ⟨.normal, fr1, h1, fa1, ys1, pd1, hk2, hfa1, fun i r n ρ w a QQ hr hs hf hN hy hJ hQ => wpIn_block (r1 i r n ρ w a _ hr hs hf hN hy hJ fun a' w' hA => ?_)⟩
        show Exit.inBlock m _ (.exit m) a' w'
        simp only [Exit.inBlock, if_true]
        exact hQ a' w' hA
      | false =>
        rw [hj] at hk2
        have hj : ¬ m = j := by
          intro e; subst e; simp at hj
        refine ⟨.exit m, fr1, h1, fa1, ys1, pd1, hk2, hfa1, fun i r n ρ w a QQ hr hs hf hN hy hJ hQ => wpIn_block (r1 i r n ρ w a _ hr hs hf hN hy hJ fun a' w' hA => ?_)⟩
        show Exit.inBlock j _ (.exit m) a' w'
        simp only [Exit.inBlock, hj, if_false]
        exact hQ a' w' hA
  | .loop x, fr, h, fa, ys, pd, k, hfa, hk => by
    obtain ⟨lp, hlp⟩ : ∃ lp : Nat → Fr → H → Fa → List Ky → Pd → KY → Nat, lp = fun m => Nat.rec (motive := fun _ => Fr → H → Fa → List Ky → Pd → KY → Nat) (fun _ _ _ _ _ _ => 1)
      (fun _ ih fr h fa ys pd k => codeY (cCodeY Y N x sc) c fr h fa ys pd (fun e fr h fa ys pd => aeGo e (ih fr h fa ys pd k) (k .ret fr h fa ys pd) (fun i => k (.exit i) fr h fa ys pd))) m := ⟨_, rfl⟩
    have key : ∀ m fr h fa ys pd, FaOk E fa → lp m fr h fa ys pd k = 0 → ∃ ae fr' h' fa' ys' pd', k ae fr' h' fa' ys' pd' = 0 ∧ FaOk E fa' ∧ ∀ i r n ρ w a QQ, (rg = true → r = none) → Sat E ρ h w → FrOk E ρ h.n.toNat fr (a : Act).tmps → N ≤ a.tmps.size →
        YS ys (yvOf (lb i)) a.tmps → (M i).J pd a.defers ρ h w → (∀ a' w', AtY E N (M i) (yvOf (lb i)) ρ h w fr' h' ys' pd' a' w' → QQ (AE.exit' ae) a' w') → Code.roundsIn (Fd r) n P x QQ m a w := by
      intro m
      induction m with
      | zero => intro fr h fa ys pd hfa hk; subst hlp; exact absurd (show (1 : Nat) = 0 from hk) (by simp)
      | succ m ih =>
        intro fr h fa ys pd hfa hk
        have hk : codeY (cCodeY Y N x sc) c fr h fa ys pd (fun e fr h fa ys pd => aeGo e (lp m fr h fa ys pd k) (k .ret fr h fa ys pd) (fun i => k (.exit i) fr h fa ys pd)) = 0 := by subst hlp; exact hk
        obtain ⟨ae, fr1, h1, fa1, ys1, pd1, hk1, hfa1, r1⟩ := codeY_run hY hcall hM hh hsc hrng x fr h fa ys pd _ hfa hk
        cases ae with
        | normal =>
          obtain ⟨ae, fr2, h2, fa2, ys2, pd2, hk2, hfa2, r2⟩ := ih fr1 h1 fa1 ys1 pd1 hfa1 hk1
          refine ⟨ae, fr2, h2, fa2, ys2, pd2, hk2, hfa2, fun i r n ρ w a QQ hr hs hf hN hy hJ hQ => ?_⟩
          rw [roundsIn_succ]
          refine r1 i r n ρ w a _ hr hs hf hN hy hJ ?_
          rintro a1 w1 ⟨ρ1, f1, n1, y1, s1, j1, x1⟩
          exact r2 i r n ρ1 w1 a1 QQ hr s1 f1 n1 y1 j1 fun a' w' hA => hQ a' w' (hA.trans x1)
        | ret => exact ⟨.ret, fr1, h1, fa1, ys1, pd1, hk1, hfa1, fun i r n ρ w a QQ hr hs hf hN hy hJ hQ => (by rw [roundsIn_succ]; exact r1 i r n ρ w a _ hr hs hf hN hy hJ hQ)⟩
        | exit j => exact ⟨.exit j, fr1, h1, fa1, ys1, pd1, hk1, hfa1, fun i r n ρ w a QQ hr hs hf hN hy hJ hQ => (by rw [roundsIn_succ]; exact r1 i r n ρ w a _ hr hs hf hN hy hJ hQ)⟩
    obtain ⟨ae, fr2, h2, fa2, ys2, pd2, hk2, hfa2, r2⟩ := key c.fuel fr h fa ys pd hfa (by subst hlp; exact hk)
    exact ⟨ae, fr2, h2, fa2, ys2, pd2, hk2, hfa2, fun i r n ρ w a QQ hr hs hf hN hy hJ hQ => wpIn_loop_rounds _ (r2 i r n ρ w a QQ hr hs hf hN hy hJ hQ)⟩
  | .region id ops false, fr, h, fa, ys, pd, k, hfa, hk => by
    simp only [cCodeY] at hk
    split at hk
    · rename_i l hl
      obtain ⟨fr2, h2', fa2, ys2, pd2, hk2, hfa2, ho⟩ := opsY_run hY hcall hM hh _ _ fr h fa ys pd hl hfa (show opsY l c fr h fa ys pd (fun fr h fa ys pd => k .normal fr h fa ys pd) = 0 from hk)
      exact ⟨.normal, fr2, h2', fa2, ys2, pd2, hk2, hfa2, fun i r n ρ w a QQ hr hs hf hN hy hJ hQ => wpIn_region_list (ho i r n ρ w a QQ hs hf hN hy hJ hQ)⟩
    · exact (badY hk).elim
  | .rangeFunc f ps x y, fr, h, fa, ys, pd, k, hfa, hk => hrng f ps x y fr h fa ys pd k hfa hk
  | .region id ops true, fr, h, fa, ys, pd, k, hfa, hk => (badY hk).elim
  | .scope x, fr, h, fa, ys, pd, k, hfa, hk => by
    have hk : codeY (bc sc (cCodeY Y N x sc) .bad) c fr h fa ys pd k = 0 := hk
    cases hs0 : sc with
    | false => rw [hs0] at hk; exact (badY hk).elim
    | true =>
      have hk : codeY (cCodeY Y N x sc) c fr h fa ys pd k = 0 := by rw [hs0] at hk ⊢; exact hk
      obtain ⟨ae, fr1, h1, fa1, ys1, pd1, hk1, hfa1, r1⟩ := codeY_run hY hcall hM hh hsc hrng x fr h fa ys pd k hfa hk
      refine ⟨ae, fr1, h1, fa1, ys1, pd1, hk1, hfa1, fun i r n ρ w a QQ hr hs hf hN hy hJ hQ => ?_⟩
      have hr0 := hr (hsc hs0)
      subst hr0
      exact (wpIn_wide (n := n)).2 (wp_scope_straight ((wpIn_wide (n := n)).1 (r1 i none n ρ w a _ hr hs hf hN hy hJ (by cases ae <;> exact hQ))))
  | .label l, fr, h, fa, ys, pd, k, hfa, hk => ⟨.normal, fr, h, fa, ys, pd, hk, hfa, fun i r n ρ w a QQ hr hs hf hN hy hJ hQ => wpIn_label (hQ _ _ ⟨ρ, hf, hN, hy, hs, hJ, Ext.refl ρ h _ (fun p o hp => (hs.bd p o hp).1)⟩)⟩
  | .goto l, fr, h, fa, ys, pd, k, hfa, hk => (badY hk).elim
  | .refuse s, fr, h, fa, ys, pd, k, hfa, hk => (badY hk).elim
theorem nilL_ok {α : Type} {l : List α} (h : nilL l = true) : l = [] := by cases l with
  | nil => rfl
  | cons a r => cases h
theorem noItr_rng {Y : Ty} {c : YX} (hc : c.itr = noItr) {rg sc : Bool} : ∀ g ps x y fr h fa ys pd k, FaOk E fa → codeY (cCodeY Y N (.rangeFunc g ps x y) sc) c fr h fa ys pd k = 0 → RunsY E P N M lb rg (.rangeFunc g ps x y) fr h ys pd k := by
  intro g ps x y fr h fa ys pd k hfa hk
  exfalso
  simp only [cCodeY] at hk
  split at hk
  · split at hk
    · rename_i g' _ _
      obtain ⟨_, hk⟩ := bcF_ok (show bc (isSo pd) 1 (vFn (od g' fr) _ 1) = 0 from hk) (by simp)
      generalize od g' fr = q at hk
      unfold vFn at hk
      split at hk
      · obtain ⟨_, hk⟩ := bc_ok hk (by simp)
        rw [hc] at hk
        exact absurd (show (1 : Nat) = 0 from hk) (by simp)
      · cases hk
    · exact badY hk
  · exact badY hk
end Go.Ev
end
/-
  Ranges over a function: the rounds, the loop, the functions.
-/
set_option linter.unusedSimpArgs false
set_option linter.unusedVariables false
noncomputable section
namespace Go.Ev
open Go
variable {E : Env} {P : Program} {N : Nat}
/-! ### blocks that no thing lies in -/
def Unb (b : Nat) (ρ : Rho) (h : H) : Prop := ∀ p o, h.t.get p = some o → o.live = true → (ρ p).b ≠ b
theorem keep_block {b : Nat} {ρ ρ' : Rho} {h h' : H} {w w' : World} (x : Ext ρ h w ρ' h' w') (hu : Unb b ρ h) (hb : b < w.heap.size) : Unb b ρ' h' ∧ w'.heap[b]? = w.heap[b]? := by
  refine ⟨fun p o hp hl => ?_, x.keep b hb fun p o hp hl _ => hu p o hp hl⟩
  by_cases hn : p.toNat < h.n.toNat
  · obtain ⟨o0, h0, l0⟩ := x.liv p o hn hp hl
    rw [x.agree p hn]; exact hu p o0 h0 l0
  · rcases x.new p o (by omega) hp hl with h1 | ⟨q, o', h1, h2, _, h3⟩
    · omega
    · rw [← h3]; exact hu q o' h1 h2
theorem put_sat {b : Nat} {X : Obj} {ρ : Rho} {h : H} {w : World} (s : Sat E ρ h w) (hu : Unb b ρ h) : Sat E ρ h (w.putObj b X) :=
  ⟨fun p o hp => O.Is_heap E (fun hl => World.putObj_heap_other (hu p o hp hl)) (s.obj p o hp), s.inj, s.bd⟩
theorem ext_mask {b : Nat} {X : Obj} {ρ ρ' : Rho} {h h' : H} {w w' : World} (x : Ext ρ h w ρ' h' w') (hb : b < w.heap.size) : Ext ρ h (w.putObj b X) ρ' h' (w'.putObj b X) := by
  refine ⟨x.len, x.lo, x.agree, fun p o h1 h2 h3 => by rw [World.putObj_size]; exact x.new p o h1 h2 h3, x.os, x.tape, x.output, by rw [World.putObj_size, World.putObj_size]; exact x.size, fun c hc hno => ?_, x.old, x.liv⟩
  rw [World.putObj_size] at hc
  by_cases e : c = b
  · subst e
    rw [World.putObj_heap_same hc, World.putObj_heap_same (Nat.lt_of_lt_of_le hc x.size)]
  · rw [World.putObj_heap_other e, World.putObj_heap_other e]
    exact x.keep c hc hno
theorem putObj_put {b : Nat} {X Y : Obj} {w : World} : (w.putObj b X).putObj b Y = w.putObj b Y := by
  unfold World.putObj
  congr 1
  apply Array.ext_getElem?
  intro i
  simp only [Array.getElem?_setIfInBounds]
  by_cases e : b = i
  · simp [e]
  · simp [e]
theorem sat_alloc {ρ : Rho} {h : H} {w : World} (s : Sat E ρ h w) (o : Obj) : Sat E ρ h (w.alloc o) :=
  ⟨fun p x hp => O.Is_heap E (fun hl => by
    have hlt : (ρ p).b < w.heap.size := O.Is_lt E (s.obj p x hp) hl
    show (w.heap.push o)[(ρ p).b]? = w.heap[(ρ p).b]?
    rw [Array.getElem?_push, if_neg (by omega)]) (s.obj p x hp), s.inj, s.bd⟩
theorem unb_new {ρ : Rho} {h : H} {w : World} (s : Sat E ρ h w) {b : Nat} (hb : w.heap.size ≤ b) : Unb b ρ h := fun p o hp hl => by
  have : (ρ p).b < w.heap.size := O.Is_lt E (s.obj p o hp) hl
  omega
/-! ### the modes -/
def plainMd : Md := ⟨fun w => w, fun _ ds _ _ _ => ds = []⟩
theorem plainMd_ok : MdOk E plainMd := ⟨fun _ _ x hj => ⟨hj, x⟩⟩
def markOf (b : Nat) : Deferred := { target := .collected b, args := #[] }
def callMd (B : Nat) : Md := ⟨fun w => w, fun pd ds ρ h w => (B ≤ w.heap.size ∧ pd = none ∧ ds = []) ∨ (pd = some .normal ∧ ∃ b, B ≤ b ∧ ds = [markOf b] ∧ w.heap[b]? = some (.deferred (some [])) ∧ Unb b ρ h)⟩
theorem callMd_ok (B : Nat) : MdOk E (callMd B) := ⟨fun s s' x hj => ⟨by
  rcases hj with ⟨h1, h2, h3⟩ | ⟨h1, b, h2, h3, h4, h5⟩
  · exact .inl ⟨Nat.le_trans h1 x.size, h2, h3⟩
  · obtain ⟨h6, h7⟩ := keep_block x h5 (Array.getElem?_eq_some_iff.1 h4).1
    exact .inr ⟨h1, b, h2, h3, h7.trans h4, h6⟩, x⟩⟩
/-- a loop: what its text says; where it lies -/
structure LS where
  fr : Fr
  ps : Array Tmp
  as : Code
  bd : Code
  N : Nat
structure LI where
  b : Nat
  D : Nat
  T : Array Value
  fn : FuncId
def pdCode : AE → Code
  | .normal => .skip
  | .ret => .ret
  | .exit i => .exit i
def recOf (s : LS) (i : LI) (st : LoopState) (pe : Option Code) : Loop := { state := st, pending := pe, fn := i.fn, tmps := i.T, params := s.ps, assign := s.as, body := s.bd, defers := i.D }
def recPd (s : LS) (i : LI) : Pd → Loop
  | none => recOf s i .ready none
  | some e => recOf s i .done (some (pdCode e))
def iterMd (E : Env) (s : LS) (i : LI) : Md := ⟨fun w => w.putObj i.b (.deferred none), fun pd ds ρ h w => ds = [] ∧ w.heap[i.b]? = some (.loop (recPd s i pd)) ∧ w.heap[i.D]? = some (.deferred (some [])) ∧ i.D ≠ i.b ∧
  Unb i.b ρ h ∧ Unb i.D ρ h ∧ FrOk E ρ h.n.toNat s.fr i.T ∧ s.N ≤ i.T.size⟩
theorem iterMd_ok (s : LS) (i : LI) : MdOk E (iterMd E s i) := ⟨fun hs hs' x hj => by
  obtain ⟨h1, h2, h3, h4, h5, h6, h7, h8⟩ := hj
  have hb := (Array.getElem?_eq_some_iff.1 h2).1
  obtain ⟨u1, k1⟩ := keep_block x h5 hb
  obtain ⟨u2, k2⟩ := keep_block x h6 (Array.getElem?_eq_some_iff.1 h3).1
  exact ⟨⟨h1, k1.trans h2, k2.trans h3, h4, u1, u2, h7.mono x.len x.agree, h8⟩, ext_mask x hb⟩⟩
/-! ### a round -/
theorem bindPs_ok : ∀ (ps : List Nat) (l : List V) (fr : Fr) (k : Fr → Nat), bindPs (ps.map keyOf) l fr k = 0 → ∃ fr', k fr' = 0 ∧ ps.length = l.length ∧
    ∀ (E : Env) ρ n (T : Array Value), (∀ p ∈ ps, p < T.size) → FrOk E ρ n fr T → bdL n l → FrOk E ρ n fr' ((ps.zip (γL E ρ l)).foldl (fun t (p : Nat × Value) => t.setIfInBounds p.1 p.2) T) ∧ ((ps.zip (γL E ρ l)).foldl (fun t (p : Nat × Value) => t.setIfInBounds p.1 p.2) T).size = T.size
  | [], [], fr, k, hk => ⟨fr, hk, rfl, fun E ρ n T _ hf _ => ⟨hf, rfl⟩⟩
  | [], v :: vs, fr, k, hk => absurd (show (1 : Nat) = 0 from hk) (by simp)
  | p :: ps, [], fr, k, hk => absurd (show (1 : Nat) = 0 from hk) (by simp)
  | p :: ps, v :: vs, fr, k, hk => by
    have hk : setF (keyOf p) fr v (fun fr => bindPs (ps.map keyOf) vs fr k) = 0 := hk
    obtain ⟨fr1, hk, g1, g2⟩ := setF_ok hk
    obtain ⟨fr', hk, hl, hr⟩ := bindPs_ok ps vs fr1 k hk
    refine ⟨fr', hk, by simp [hl], fun E ρ n T hp hf hb => ?_⟩
    have h1 := hr E ρ n (T.setIfInBounds p (v.γ E ρ)) (fun q hq => by simpa using hp q (List.mem_cons_of_mem _ hq)) (hf.set (hp p List.mem_cons_self) hb.1 g1 g2) hb.2
    simp only [γL, List.zip_cons_cons, List.foldl_cons]
    exact ⟨h1.1, by rw [h1.2]; simp⟩
def pdOf : AE → Pd
  | .normal => none
  | .ret => some .ret
  | .exit i => some (.exit i)
def bOf : AE → Bool
  | .normal => true
  | _ => false
theorem round_ok {Y : Ty} (hY : TyOk P Y) {c : YX} (hcall : CallOk E P c.call) {fr : Fr} {ps : Array Tmp} {as bd : Code} (hps : ∀ p ∈ ps.toList, p < N) :
    HandA E P (iterMd E ⟨fr, ps, as, bd, N⟩) (fun i => i.b) (roundT c fr (ps.toList.map keyOf) (codeY (cCodeY Y N as false)) (codeY (cCodeY Y N bd false))) := by
  intro l h fa k hk hfa
  obtain ⟨fr0, hk, hlen, hbind⟩ := bindPs_ok _ _ _ _ (show bindPs (ps.toList.map keyOf) l fr _ = 0 from hk)
  obtain ⟨ae, fr1, h1, fa1, ys1, pd1, hk, hfa1, r1⟩ := codeY_run (P := P) (M := fun _ : Unit => plainMd) (lb := fun _ => 0) (rg := false) hY (c := ⟨c.call, c.F, c.fuel, noHand, noItr⟩) hcall (fun _ => plainMd_ok) noHand_ok (sc := false) (by simp) (noItr_rng rfl) as fr0 h fa [] none _ hfa hk
  obtain ⟨hp, hk⟩ := bcF_ok (show bc (isSo pd1) 1 _ = 0 from hk) (by simp)
  have hp := isSo_false hp
  subst hp
  cases ae with
  | ret => exact absurd (show (1 : Nat) = 0 from hk) (by simp)
  | exit j => exact absurd (show (1 : Nat) = 0 from hk) (by simp)
  | normal =>
  obtain ⟨ae, fr2, h2, fa2, ys2, pd2, hk, hfa2, r2⟩ := codeY_run (P := P) (M := fun _ : Unit => plainMd) (lb := fun _ => 0) (rg := false) hY (c := ⟨c.call, c.F, c.fuel, noHand, noItr⟩) hcall (fun _ => plainMd_ok) noHand_ok (sc := false) (by simp) (noItr_rng rfl) bd fr1 h1 fa1 [] none _ hfa1 hk
  obtain ⟨hp, hk⟩ := bcF_ok (show bc (isSo pd2) 1 _ = 0 from hk) (by simp)
  have hk : k (bOf ae) h2 fa2 (pdOf ae) = 0 := by cases ae <;> exact hk
  refine ⟨_, _, _, _, hk, hfa2, fun i n ρ w ds hb hs hJ => ?_⟩
  obtain ⟨hds, hrec, hD, hne, hu1, hu2, hf, hN⟩ := hJ
  have hlt := (Array.getElem?_eq_some_iff.1 hrec).1
  obtain ⟨hf0, hsz0⟩ := hbind E ρ h.n.toNat i.T (fun p hp => Nat.lt_of_lt_of_le (hps p hp) hN) hf hb
  have hsize : (γL E ρ l).toArray.size = (recPd ⟨fr, ps, as, bd, N⟩ i none).params.size := by
    show (γL E ρ l).toArray.size = ps.size
    rw [List.size_toArray, γL_length, ← hlen]; simp
  refine ⟨i.fn, _, as, bd, run_yield hrec hsize, roundIn_of_wpIn trivial ?_⟩
  have htm : ((recPd ⟨fr, ps, as, bd, N⟩ i none).params.zip (γL E ρ l).toArray).foldl (fun tmps (x : Nat × Value) => tmps.setIfInBounds x.1 x.2) (recPd ⟨fr, ps, as, bd, N⟩ i none).tmps = (ps.toList.zip (γL E ρ l)).foldl (fun t (p : Nat × Value) => t.setIfInBounds p.1 p.2) i.T := by
    show (ps.zip (γL E ρ l).toArray).foldl (fun tmps (x : Nat × Value) => tmps.setIfInBounds x.1 x.2) i.T = _
    rw [← Array.foldl_toList, Array.toList_zip]
  rw [show (((recPd ⟨fr, ps, as, bd, N⟩ i none).params.zip (γL E ρ l).toArray).foldl (fun tmps x => match x with | (t, a) => tmps.setIfInBounds t a) (recPd ⟨fr, ps, as, bd, N⟩ i none).tmps) = _ from htm]
  refine r1 () (some i.b) n ρ w ⟨_, []⟩ _ (by simp) hs hf0 (by show N ≤ _; rw [hsz0]; exact hN) (fun t ht => by cases ht) rfl ?_
  rintro a1 w1 ⟨ρ1, f1, n1, _, s1, d1, x1⟩
  have x1 : Ext ρ h w ρ1 h1 w1 := x1
  obtain ⟨u1, k1⟩ := keep_block x1 hu1 hlt
  obtain ⟨u2, k2⟩ := keep_block x1 hu2 (Array.getElem?_eq_some_iff.1 hD).1
  have hlt1 : i.b < w1.heap.size := Nat.lt_of_lt_of_le hlt x1.size
  refine ⟨_, run_beginRound (k1.trans hrec) rfl, ?_⟩
  refine r2 () (some i.b) n ρ1 _ a1 _ (by simp) (put_sat s1 u1) f1 n1 (fun t ht => by cases ht) d1 ?_
  rintro a2 w3 ⟨ρ2, f2, n2, _, s2, d2, x2⟩
  have x2 : Ext ρ1 h1 (w1.putObj i.b (.loop { recPd ⟨fr, ps, as, bd, N⟩ i none with state := .busy })) ρ2 h2 w3 := x2
  have hlt2 : i.b < (w1.putObj i.b (.loop { recPd ⟨fr, ps, as, bd, N⟩ i none with state := .busy })).heap.size := by rw [World.putObj_size]; exact hlt1
  obtain ⟨u3, k3⟩ := keep_block x2 u1 hlt2
  have hD1 : (w1.putObj i.b (.loop { recPd ⟨fr, ps, as, bd, N⟩ i none with state := .busy })).heap[i.D]? = some (.deferred (some [])) := (World.putObj_heap_other hne).trans (k2.trans hD)
  obtain ⟨u4, k4⟩ := keep_block x2 u2 (Array.getElem?_eq_some_iff.1 hD1).1
  have hlt3 : i.b < w3.heap.size := Nat.lt_of_lt_of_le hlt2 x2.size
  have hbusy : w3.heap[i.b]? = some (.loop { recPd ⟨fr, ps, as, bd, N⟩ i none with state := .busy }) := k3.trans (World.putObj_heap_same hlt1)
  have ext : ∀ X, Ext ρ h (w.putObj i.b (.deferred none)) ρ2 h2 ((w3.putObj i.b X).putObj i.b (.deferred none)) := fun X => by
    rw [putObj_put]
    refine (ext_mask x1 hlt).trans ?_
    have := ext_mask (X := .deferred none) x2 hlt2
    rw [putObj_put] at this
    exact this
  have fin : ∀ (jump : Option Code) (pd : Pd), recPd ⟨fr, ps, as, bd, N⟩ i pd = recOf ⟨fr, ps, as, bd, N⟩ i (if jump.isNone then .ready else .done) jump →
      ∃ v w', (Instr.endRound i.b jump).run P w3 = .ok v w' ∧ v = .bool jump.isNone ∧ ∃ ρ', Sat E ρ' h2 w' ∧ (iterMd E ⟨fr, ps, as, bd, N⟩ i).J pd ds ρ' h2 w' ∧ Ext ρ h ((iterMd E ⟨fr, ps, as, bd, N⟩ i).m w) ρ' h2 ((iterMd E ⟨fr, ps, as, bd, N⟩ i).m w') := by
    intro jump pd hpd
    refine ⟨_, _, run_endRound jump hbusy, rfl, ρ2, put_sat s2 u3, ⟨hds, ?_, ?_, hne, u3, u4, (hf.mono x1.len x1.agree).mono x2.len x2.agree, hN⟩, ext _⟩
    · rw [World.putObj_heap_same hlt3, hpd]; rfl
    · rw [World.putObj_heap_other hne]; exact k4.trans hD1
  cases ae with
  | normal => obtain ⟨v, w', e1, e2, e3⟩ := fin none none rfl; exact ⟨v, w', e1, by rw [e2]; rfl, e3⟩
  | ret => obtain ⟨v, w', e1, e2, e3⟩ := fin (some .ret) (some .ret) rfl; exact ⟨v, w', e1, by rw [e2]; rfl, e3⟩
  | exit j => obtain ⟨v, w', e1, e2, e3⟩ := fin (some (.exit j)) (some (.exit j)) rfl; exact ⟨v, w', e1, by rw [e2]; rfl, e3⟩
/-! ### the loop -/
def ItrOk (E : Env) (P : Program) (itr : Nat → Option ItrT) : Prop := ∀ G it, itr G = some it → Callable P G ∧ ∀ (s : LS) hand l h fa k, HandA E P (iterMd E s) (fun i => i.b) hand → it hand l h fa k = 0 → FaOk E fa →
  ∃ h' fa' pd', k h' fa' pd' = 0 ∧ FaOk E fa' ∧ ∀ (i : LI) ρ w, bdL h.n.toNat l → Sat E ρ h w → (iterMd E s i).J none [] ρ h w → Calls P G (#[yvOf i.b] ++ (γL E ρ l).toArray) w fun e w' =>
    (∃ v, e = .returned v) ∧ ∃ ρ', Sat E ρ' h' w' ∧ (iterMd E s i).J pd' [] ρ' h' w' ∧ Ext ρ h ((iterMd E s i).m w) ρ' h' ((iterMd E s i).m w')
theorem pdCode_wp {e : AE} {r : Option Nat} {n : Nat} {Q : Exit → Act → World → Prop} {a : Act} {w : World} (h : Q (AE.exit' e) a w) : (pdCode e).wpIn (Fd r) n P Q a w := by
  cases e with
  | normal => exact wpIn_skip h
  | ret => exact wpIn_ret h
  | exit i => exact wpIn_exit h
theorem rng_run {Y : Ty} (hY : TyOk P Y) {sc : Bool} {c : YX} (hcall : CallOk E P c.call) (hitr : ItrOk E P c.itr) : ∀ g ps x y fr h fa ys pd k, FaOk E fa → codeY (cCodeY Y N (.rangeFunc g ps x y) sc) c fr h fa ys pd k = 0 →
    RunsY E P N callMd (fun _ => 0) true (.rangeFunc g ps x y) fr h ys pd k := by
  intro g ps x y fr h fa ys pd k hfa hk
  simp only [cCodeY] at hk
  split at hk
  rotate_left
  · exact (badY hk).elim
  rename_i g' hg'
  split at hk
  rotate_left
  · exact (badY hk).elim
  rename_i hall
  have hps : ∀ p ∈ ps.toList, p < N := by
    have : ∀ l : List Nat, allB (fun p => Nat.blt p N) l = true → ∀ p ∈ l, p < N := by
      intro l
      induction l with
      | nil => intro _ p hp; cases hp
      | cons a r ih =>
        intro hl p hp
        obtain ⟨h1, h2⟩ : Nat.blt a N = true ∧ allB (fun p => Nat.blt p N) r = true := by
          have hl : bc (Nat.blt a N) (allB (fun p => Nat.blt p N) r) false = true := hl
          rw [bc_eqB] at hl
          simpa using hl
        rcases List.mem_cons.1 hp with e | e
        · subst e; simpa using h1
        · exact ih h2 p e
    exact this _ hall
  obtain ⟨hp, hk2⟩ := bcF_ok (show bc (isSo pd) 1 (vFn (od g' fr) _ 1) = 0 from hk) (by simp)
  clear hk
  have hp := isSo_false hp
  subst hp
  have hk := hk2
  clear hk2
  generalize hod : od g' fr = q at hk
  unfold vFn at hk
  split at hk
  rotate_left
  · cases hk
  rename_i G pre caps
  obtain ⟨hpre, hk⟩ := bc_ok hk (by simp)
  have hpre := nilL_ok hpre
  subst hpre
  obtain ⟨it, hit, hk⟩ := oc_ok hk (by simp)
  obtain ⟨hca, hit⟩ := hitr G it hit
  obtain ⟨h', fa', pd', hk, hfa', hrun⟩ := hit ⟨fr, ps, x, y, N⟩ _ caps h fa _ (round_ok hY hcall hps) hk hfa
  have hk : k (match pd' with | none => .normal | some e => e) fr h' fa' ys (some .normal) = 0 := by cases pd' <;> exact hk
  refine ⟨_, _, _, _, _, _, hk, hfa', fun B r n ρ w a QQ hr hs hf hN hy hJ hQ => ?_⟩
  have hr := hr rfl
  subst hr
  rcases hJ with ⟨hB, _, hds⟩ | ⟨h1, _⟩
  rotate_left
  · cases h1
  obtain ⟨hge, hgb⟩ := od_run hf hg' hod
  have hge : a.eval g = .func (.func G) #[] (γL E ρ caps).toArray := by rw [hge]; simp [V.γ, γL]
  refine wpIn_rangeFunc (F := Fd none) fun fn _ => ?_
  obtain ⟨i, hi⟩ : ∃ i : LI, i = ⟨w.heap.size + 1, w.heap.size, a.tmps, fn⟩ := ⟨_, rfl⟩
  obtain ⟨W1, hW1⟩ : ∃ W1, (w.alloc (.deferred (some []))).alloc (.loop (recPd ⟨fr, ps, x, y, N⟩ i none)) = W1 := ⟨_, rfl⟩
  have hsz : W1.heap.size = w.heap.size + 2 := by rw [← hW1]; simp
  have hold : ∀ b, b < w.heap.size → W1.heap[b]? = w.heap[b]? := fun b hb => by
    rw [← hW1]
    show ((w.heap.push _).push _)[b]? = _
    rw [Array.getElem?_push, if_neg (by simp; omega), Array.getElem?_push, if_neg (by omega)]
  have hL1 : W1.heap[w.heap.size + 1]? = some (.loop (recPd ⟨fr, ps, x, y, N⟩ i none)) := by
    rw [← hW1]; have := World.alloc_heap_new (w.alloc (.deferred (some []))) (.loop (recPd ⟨fr, ps, x, y, N⟩ i none)); rwa [World.size_alloc] at this
  have hK1 : W1.heap[w.heap.size]? = some (.deferred (some [])) := by
    rw [← hW1]
    show ((w.heap.push _).push _)[w.heap.size]? = _
    rw [Array.getElem?_push, if_neg (by simp)]
    simp
  have hs1 : Sat E ρ h W1 := by rw [← hW1]; exact sat_alloc (sat_alloc hs _) _
  have hj1 : (iterMd E ⟨fr, ps, x, y, N⟩ i).J none [] ρ h W1 := by
    subst hi
    exact ⟨rfl, hL1, hK1, by simp, unb_new hs (by simp), unb_new hs (by simp), hf, hN⟩
  refine ⟨w.heap.size + 1, [markOf w.heap.size], W1, { target := .fn (.func G) (γL E ρ caps).toArray, args := #[.func (.yield (w.heap.size + 1)) #[] #[]] }, W1, G,
    #[.func (.yield (w.heap.size + 1)) #[] #[]] ++ (γL E ρ caps).toArray, W1, ?_, ?_, fun _ _ => trivial, ?_, fun h => by simp [Fd, Fence.wide] at h, ?_⟩
  · rw [← hW1, hi]; exact run_enterLoop_outer _ _ _ _ _
  · simp only [resolve, hge]
    simp [go_sem]
  · have := hca (#[.func (.yield (w.heap.size + 1)) #[] #[]] ++ (γL E ρ caps).toArray) W1
    simpa [invoke, go_sem] using this
  · have hc := hrun i ρ W1 hgb.2 hs1 hj1
    rw [hi] at hc
    refine (calls_fd hc).mono ?_
    rintro e w3 ⟨⟨v, rfl⟩, ρ', s3, ⟨_, hrec3, hD3, hne3, u3, u4, _, _⟩, x3⟩
    have hlt3 : w.heap.size + 1 < w3.heap.size := (Array.getElem?_eq_some_iff.1 hrec3).1
    have hend := run_endLoop (P := P) hrec3 (by cases pd' <;> simp [recPd, recOf])
    have hat : AtY E N (callMd B) (yvOf 0) ρ h w fr h' ys (some .normal) { a with defers := [markOf w.heap.size] ++ a.defers } (w3.putObj (w.heap.size + 1) (.loop { recPd ⟨fr, ps, x, y, N⟩ ⟨w.heap.size + 1, w.heap.size, a.tmps, fn⟩ pd' with state := .exhausted })) := by
      refine ⟨ρ', hf.mono x3.len x3.agree, hN, hy, put_sat s3 u3, .inr ⟨rfl, w.heap.size, hB, by rw [hds]; rfl, ?_, u4⟩, ?_⟩
      · rw [World.putObj_heap_other hne3]; exact hD3
      · have x3 : Ext ρ h (W1.putObj (w.heap.size + 1) (.deferred none)) ρ' h' (w3.putObj (w.heap.size + 1) (.deferred none)) := x3
        refine ⟨x3.len, x3.lo, x3.agree, fun p o h1 h2 h3 => ?_, ?_, ?_, ?_, ?_, fun b hb hno => ?_, x3.old, x3.liv⟩
        · rcases x3.new p o h1 h2 h3 with h4 | h4
          · rw [World.putObj_size, hsz] at h4
            exact .inl (by show w.heap.size ≤ _; omega)
          · exact .inr h4
        · exact x3.os.trans (by rw [← hW1]; rfl)
        · exact x3.tape.trans (by rw [← hW1]; rfl)
        · exact x3.output.trans (by rw [← hW1]; rfl)
        · show w.heap.size ≤ (w3.putObj _ _).heap.size
          rw [World.putObj_size]; omega
        · have hb : b < w.heap.size := hb
          have := x3.keep b (by rw [World.putObj_size, hsz]; omega) hno
          rw [World.putObj_heap_other (by omega), World.putObj_heap_other (by omega), hold b hb] at this
          show (w3.putObj _ _).heap[b]? = w.heap[b]?
          rw [World.putObj_heap_other (by omega)]
          exact this
    refine ⟨_, _, hend, ?_⟩
    cases pd' with
    | none => exact hQ _ _ hat
    | some e => exact pdCode_wp (r := none) (hQ _ _ hat)
end Go.Ev
end
/-
  Ranges over a function: the functions.
-/
set_option linter.unusedSimpArgs false
set_option linter.unusedVariables false
noncomputable section
namespace Go.Ev
open Go
variable {E : Env} {P : Program} {N : Nat}
/-- the iterators' code -/
theorem itr_ok {Y : Ty} (hY : TyOk P Y) {call : CallT} (hcall : CallOk E P call) {fuel G : Nat} {f : Func} {c : Code} (hfn : P.funcs[G]? = some f) (hb : f.body = some c) (hres : f.results.toList = [])
    (s : LS) (hand : Hand) (l : List V) (h : H) (fa : Fa) (k : H → Fa → Pd → Nat) (hh : HandA E P (iterMd E s) (fun i => i.b) hand) (hk : itrT (cCodeY Y f.ntmps c true) call G fuel hand l h fa k = 0) (hfa : FaOk E fa) :
    ∃ h' fa' pd', k h' fa' pd' = 0 ∧ FaOk E fa' ∧ ∀ (i : LI) ρ w, bdL h.n.toNat l → Sat E ρ h w → (iterMd E s i).J none [] ρ h w → Calls P G (#[yvOf i.b] ++ (γL E ρ l).toArray) w fun e w' =>
    (∃ v, e = .returned v) ∧ ∃ ρ', Sat E ρ' h' w' ∧ (iterMd E s i).J pd' [] ρ' h' w' ∧ Ext ρ h ((iterMd E s i).m w) ρ' h' ((iterMd E s i).m w') := by
  obtain ⟨fr, hk, hfr⟩ := initFr_eq l 1 .e _ hk
  obtain ⟨ae, fr1, h1, fa1, ys1, pd1, hk1, hfa1, r1⟩ := codeY_run (P := P) (M := iterMd E s) (lb := fun i => i.b) (rg := true) hY (c := ⟨call, G, fuel, hand, noItr⟩) hcall (fun i => iterMd_ok s i) hh (sc := true) (fun _ => rfl) (noItr_rng rfl) c fr h fa [keyOf 0] none _ hfa hk
  have fin : (AE.exit' ae = .normal ∨ AE.exit' ae = .ret) → k h1 fa1 pd1 = 0 → ∃ h' fa' pd', k h' fa' pd' = 0 ∧ FaOk E fa' ∧ ∀ (i : LI) ρ w, bdL h.n.toNat l → Sat E ρ h w → (iterMd E s i).J none [] ρ h w → Calls P G (#[yvOf i.b] ++ (γL E ρ l).toArray) w fun e w' =>
    (∃ v, e = .returned v) ∧ ∃ ρ', Sat E ρ' h' w' ∧ (iterMd E s i).J pd' [] ρ' h' w' ∧ Ext ρ h ((iterMd E s i).m w) ρ' h' ((iterMd E s i).m w') := by
    intro hae hk
    refine ⟨h1, fa1, pd1, hk, hfa1, fun i ρ w hbd hs hJ => calls_of_wp hfn hb ?_⟩
    have htm : ∀ t, (#[yvOf i.b] ++ (γL E ρ l).toArray ++ Array.replicate (f.ntmps - (#[yvOf i.b] ++ (γL E ρ l).toArray).size) undef)[1 + t]? = if t < l.length then (γL E ρ l)[t]? else (#[yvOf i.b] ++ (γL E ρ l).toArray ++ Array.replicate (f.ntmps - (#[yvOf i.b] ++ (γL E ρ l).toArray).size) undef)[1 + t]? := by
      intro t
      by_cases ht : t < l.length
      · rw [if_pos ht, Array.getElem?_append_left (by simp [γL_length]; omega), Array.getElem?_append_right (by simp)]
        simp
      · rw [if_neg ht]
    refine (wpIn_wide (n := 0)).1 (r1 i none 0 ρ w ⟨_, []⟩ _ (fun _ => rfl) hs ?_ ?_ ?_ hJ ?_)
    · intro t v hv
      rcases hfr _ v hv with h3 | ⟨j, h3, h4⟩
      · rw [Fr.get_e] at h3; simp at h3
      · have := key_inj h3
        subst this
        have hj : j < l.length := (List.getElem?_eq_some_iff.1 h4).1
        refine ⟨?_, (bdL_eq _ l).1 hbd v (List.mem_of_getElem? h4)⟩
        show _ = _
        rw [htm j, if_pos hj, γL_get, h4]
        rfl
    · simp [γL_length]; omega
    · intro t ht
      rcases List.mem_cons.1 ht with e | e
      · have := key_inj e
        subst this
        rw [Array.getElem?_append_left (by simp), Array.getElem?_append_left (by simp)]
        simp
      · cases e
    · rintro a' w' ⟨ρ', f1, n1, y1, s1, j1, x1⟩
      have hd : a'.defers = [] := j1.1
      rw [hd] at j1
      have hr : ∃ v, (results f a'.tmps).run P w' = .ok v w' := by
        have e0 : results f a'.tmps = (do
          let vs ← f.results.mapM (resS a'.tmps)
          pure (if h : vs.size = 1 then vs[0] else .tuple vs)) := rfl
        rw [e0, Sem.run_bind, Array.mapM_eq_mapM_toList, Sem.run_map, hres]
        exact ⟨_, rfl⟩
      obtain ⟨v, hv⟩ := hr
      have : bodyPost P f (fun e w' => (∃ v, e = .returned v) ∧ ∃ ρ', Sat E ρ' h1 w' ∧ (iterMd E s i).J pd1 [] ρ' h1 w' ∧ Ext ρ h ((iterMd E s i).m w) ρ' h1 ((iterMd E s i).m w')) .ret a' w' := ⟨hd, v, hv, ⟨v, rfl⟩, ρ', s1, j1, x1⟩
      rcases hae with h | h <;> rw [h] <;> exact this
  cases ae with
  | normal => exact fin (.inl rfl) hk1
  | ret => exact fin (.inr rfl) hk1
  | exit i => exact absurd (show (1 : Nat) = 0 from hk1) (by simp)
/-- a function that ranges -/
theorem rfn_ok {Y : Ty} (hY : TyOk P Y) {call : CallT} (hcall : CallOk E P call) {itr : Nat → Option ItrT} (hitr : ItrOk E P itr) {fuel F : Nat} {f : Func} {c : Code} {rs : List IR} (hfn : P.funcs[F]? = some f) (hca : Callable P F) (hb : f.body = some c)
    (hrs : cRes Y f.results.toList = some rs) : CallOk E P (fun G l h fa k => bc (Nat.beq G F) (rfnT (cCodeY Y f.ntmps c true) rs call F fuel itr l h fa k) 1) := by
  intro G l h fa k hk hfa
  obtain ⟨hG, hk⟩ := bc_ok (show bc (Nat.beq G F) _ 1 = 0 from hk) (by simp)
  have hG : G = F := by simpa using hG
  subst hG
  refine ⟨hca, ?_⟩
  obtain ⟨fr, hk, hfr⟩ := initFr_ok hk
  obtain ⟨ae, fr1, h1, fa1, ys1, pd1, hk1, hfa1, r1⟩ := codeY_run (P := P) (M := callMd) (lb := fun _ => 0) (rg := true) hY (c := ⟨call, G, fuel, noHand, itr⟩) hcall callMd_ok noHand_ok (sc := true) (fun _ => rfl) (rng_run hY hcall hitr) c fr h fa [] none _ hfa hk
  have fin : (AE.exit' ae = .normal ∨ AE.exit' ae = .ret) → resT rs fr1 h1 (fun v => k v h1 fa1) 1 = 0 → ∃ v h' fa', k v h' fa' = 0 ∧ FaOk E fa' ∧
      ∀ ρ w, bdL h.n.toNat l → Sat E ρ h w → Calls P G (γL E ρ l).toArray w fun e w' => ∃ ρ', e = .returned (v.γ E ρ') ∧ Sat E ρ' h' w' ∧ Ext ρ h w ρ' h' w' ∧ v.bd h'.n.toNat := by
    intro hae hr
    obtain ⟨vs, hvs, hr⟩ := oc_ok (show oc (resVs fr1 h1 rs) _ _ = 0 from hr) (by simp)
    have hv : ∃ v, k v h1 fa1 = 0 ∧ (∀ n, bdL n vs → v.bd n) ∧ ∀ ρ, (if h : (γL E ρ vs).toArray.size = 1 then (γL E ρ vs).toArray[0] else .tuple (γL E ρ vs).toArray) = v.γ E ρ := by
      match vs, hr with
      | [], hr => exact ⟨.tup [], hr, fun n hn => hn, fun ρ => rfl⟩
      | [x], hr => exact ⟨x, hr, fun n hn => hn.1, fun ρ => by simp [γL]⟩
      | x :: y :: r, hr => exact ⟨.tup (x :: y :: r), hr, fun n hn => hn, fun ρ => by simp [γL, V.γ]⟩
    obtain ⟨v, hkv, hvb, hvγ⟩ := hv
    refine ⟨v, h1, fa1, hkv, hfa1, fun ρ w hbd hs => ?_⟩
    refine (callsIn_wide (n := 0)).1 (callsIn_of_wp_marks (F := Fence.wide) hfn hb trivial ?_ rfl)
    have hf : FrOk E ρ h.n.toNat fr ((γL E ρ l).toArray ++ Array.replicate (f.ntmps - (γL E ρ l).toArray.size) undef) := by
      intro t v hv
      have h2 := hfr t v hv
      have ht : t < l.length := (List.getElem?_eq_some_iff.1 h2).1
      refine ⟨?_, (bdL_eq _ l).1 hbd v (List.mem_of_getElem? h2)⟩
      rw [Array.getElem?_append_left (by simp [γL_length]; exact ht)]
      simp [γL_get, h2]
    refine r1 w.heap.size none 0 ρ w ⟨_, []⟩ _ (by simp) hs hf (by simp [γL_length]; omega) (fun t ht => by cases ht) (.inl ⟨Nat.le_refl _, rfl, rfl⟩) ?_
    rintro a1 w1 ⟨ρ1, f1, n1, y1, s1, j1, x1⟩
    have x1 : Ext ρ h w ρ1 h1 w1 := x1
    have this : bodyPostM Fence.wide 0 P f (fun e w' => ∃ ρ', e = .returned (v.γ E ρ') ∧ Sat E ρ' h1 w' ∧ Ext ρ h w ρ' h1 w' ∧ v.bd h1.n.toNat) .ret a1 w1 := by
      show LeavesInM Fence.wide 0 P f a1.tmps _ a1.defers .returning w1
      rcases j1 with ⟨_, _, hd⟩ | ⟨_, b, hB, hd, hD, hu⟩
      · rw [hd]
        obtain ⟨e1, b1⟩ := results_run hY hrs s1 f1 hvs
        rw [hvγ] at e1
        exact ⟨_, e1, ρ1, rfl, s1, x1, hvb _ b1⟩
      · rw [hd]
        have s2 : Sat E ρ1 h1 (w1.putObj b (.deferred none)) := put_sat s1 hu
        obtain ⟨e1, b1⟩ := results_run hY hrs s2 f1 hvs
        rw [hvγ] at e1
        refine ⟨by simp, .inl ⟨b, _, rfl, run_takeDeferred hD, ⟨_, e1, ρ1, rfl, s2, ?_, hvb _ b1⟩⟩⟩
        refine ⟨x1.len, x1.lo, x1.agree, x1.new, x1.os, x1.tape, x1.output, by rw [World.putObj_size]; exact x1.size, fun c hc hno => ?_, x1.old, x1.liv⟩
        rw [World.putObj_heap_other (by omega)]
        exact x1.keep c hc hno
    rcases hae with h | h <;> rw [h] <;> exact this
  cases ae with
  | normal => exact fin (.inl rfl) hk1
  | ret => exact fin (.inr rfl) hk1
  | exit i => exact absurd (show (1 : Nat) = 0 from hk1) (by simp)
end Go.Ev
end
/-
  Heaps out of lists of what lies in them; chunks of runs, with what is known.
-/
set_option linter.unusedSimpArgs false
set_option linter.unusedVariables false
noncomputable section
namespace Go.Ev
open Go
variable {E : Env} {P : Program}
inductive OS where
  | o (x : O) | a (t n d : Nat) (z : V) (l : List (Nat × V)) | va (t n d : Nat) (z : V) (l : List (Nat × V)) | u (l : List (Nat × V))
def trGo (d : Nat) (l : List (Nat × V)) (t : Tr V) : Tr V := List.foldl (fun t p => t.set d p.1 p.2) t l
def trK (d : Nat) (l : List (Nat × V)) : Tr V → (Tr V → Nat) → Nat := lRec (fun t k => k t) (fun p _ ih t k => pc p (fun a v => tset t d a v (fun t => ih t k))) l
/-- some cells of a thing, anew -/
def updO (l : List (Nat × V)) (o : O) : O := match o with
  | .arr t n d z tr => .arr t n d z (trGo d l tr)
  | .varr t n d z tr => .varr t n d z (trGo d l tr)
  | o => o
def updK (l : List (Nat × V)) (o : O) (k : O → Nat) : Nat := match o with
  | .arr t n d z tr => trK d l tr (fun tr => k (.arr t n d z tr))
  | .varr t n d z tr => trK d l tr (fun tr => k (.varr t n d z tr))
  | o => k o
def OS.mk (x : OS) (old : Option O) : O := match x with
  | .o x => x
  | .a t n d z l => .arr t n d z (trGo d l .nil)
  | .va t n d z l => .varr t n d z (trGo d l .nil)
  | .u l => oc old (updO l) .dead
def OS.mkK (x : OS) (old : Option O) (k : O → Nat) : Nat := match x with
  | .o x => k x
  | .a t n d z l => trK d l .nil (fun tr => k (.arr t n d z tr))
  | .va t n d z l => trK d l .nil (fun tr => k (.varr t n d z tr))
  | .u l => oc old (fun o => updK l o k) (k .dead)
def ptGo (l : List (Ev.P × OS)) (t : PT O) : PT O := List.foldl (fun t p => t.set p.1 (p.2.mk (t.get p.1))) t l
def ptK (l : List (Ev.P × OS)) : PT O → (PT O → Nat) → Nat := lRec (fun t k => k t) (fun p _ ih t k => pc p (fun a x => x.mkK (t.get a) (fun o => setK a t o (fun t => ih t k)))) l
structure HS where
  n : Ev.P
  lo : Ev.P
  l : List (Ev.P × OS)
def HS.mk' (s : HS) : H := ⟨s.n, s.lo, ptGo s.l .e⟩
def HS.mkK (s : HS) (k : H → Nat) : Nat := HS.rec (motive := fun _ => Nat) (fun n lo l => ptK l .e (fun t => k ⟨n, lo, t⟩)) s
theorem trK_eq (d : Nat) : ∀ (l : List (Nat × V)) (t : Tr V) (k : Tr V → Nat), trK d l t k = k (trGo d l t)
  | [], t, k => rfl
  | (a, v) :: r, t, k => by
    have e : trK d ((a, v) :: r) t k = tset t d a v (fun t => trK d r t k) := rfl
    rw [e, tset_eq, trK_eq d r]; rfl
theorem updK_eq (l : List (Nat × V)) (o : O) (k : O → Nat) : updK l o k = k (updO l o) := by
  cases o <;> try rfl
  · show trK _ l _ _ = _; rw [trK_eq]; rfl
  · show trK _ l _ _ = _; rw [trK_eq]; rfl
theorem OS.mkK_eq (x : OS) (old : Option O) (k : O → Nat) : x.mkK old k = k (x.mk old) := by
  cases x with
  | o x => rfl
  | a t n d z l => show trK d l .nil _ = _; rw [trK_eq]; rfl
  | va t n d z l => show trK d l .nil _ = _; rw [trK_eq]; rfl
  | u l =>
    cases old with
    | none => rfl
    | some o => show updK l o k = _; rw [updK_eq]; rfl
theorem ptK_eq : ∀ (l : List (Ev.P × OS)) (t : PT O) (k : PT O → Nat), ptK l t k = k (ptGo l t)
  | [], t, k => rfl
  | (a, x) :: r, t, k => by
    have e : ptK ((a, x) :: r) t k = x.mkK (t.get a) (fun o => setK a t o (fun t => ptK r t k)) := rfl
    rw [e, OS.mkK_eq, setK_eq, ptK_eq r]; rfl
theorem HS.mkK_eq (s : HS) (k : H → Nat) : s.mkK k = k s.mk' := by
  cases s with
  | mk n lo l => show ptK l .e _ = _; rw [ptK_eq]; rfl
/-- a chunk: told by lists -/
structure MS where
  F : Nat
  l : List V
  h : HS
  v : V
  h' : HS
def MS.m (s : MS) : Memo := ⟨s.F, s.l, s.h.mk', s.v, s.h'.mk'⟩
/-- what is to be run of it -/
def MS.run (s : MS) (call : CallT) (fa : Fa) : Nat := s.h.mkK (fun h => s.h'.mkK (fun h' => call s.F s.l h fa (chk s.v h')))
theorem chunkL_ok {m : Memo} {fa0 : Fa} {inner inner0 : CallT} (h1 : CallOk E P inner) (h0 : CallOk E P inner0) (hfa0 : FaOk E fa0) (hold : ∀ p : Ev.P, p.toNat < m.h.lo.toNat → m.h'.t.get p = m.h.t.get p) (hm : inner0 m.F m.l m.h fa0 (chk m.v m.h') = 0) : CallOk E P (memo m inner) := by
  intro F l h fa k hk hfa
  unfold memo at hk
  cases e1 : Nat.beq F m.F with
  | false => rw [e1] at hk; exact h1 F l h fa k hk hfa
  | true =>
    rw [e1] at hk
    have hk : bc (vlBeq l m.l) (bc (H.beq h m.h) (k m.v m.h' fa) (inner F l h fa k)) (inner F l h fa k) = 0 := hk
    cases e2 : vlBeq l m.l with
    | false => rw [e2] at hk; exact h1 F l h fa k hk hfa
    | true =>
      rw [e2] at hk
      have hk : bc (H.beq h m.h) (k m.v m.h' fa) (inner F l h fa k) = 0 := hk
      cases e3 : H.beq h m.h with
      | false => rw [e3] at hk; exact h1 F l h fa k hk hfa
      | true =>
        rw [e3] at hk
        have hk : k m.v m.h' fa = 0 := hk
        have e1 : F = m.F := by simpa using e1
        have e2 := vlBeq_ok e2
        have e3 := H.beq_ok e3
        subst e1; subst e2; subst e3
        obtain ⟨hca, v, h2, fa2, hc, _, hrun⟩ := h0 _ _ _ _ _ hm hfa0
        obtain ⟨rfl, en, el, hs⟩ := chk_ok hc
        refine ⟨hca, m.v, m.h', fa, hk, hfa, fun ρ w hb hsat => (hrun ρ w hb hsat).mono ?_⟩
        rintro e w' ⟨ρ', rfl, s, x, hv⟩
        refine ⟨ρ', rfl, ⟨fun p o hp => s.obj p o (hs p o hp), fun p q o o' hp hq => s.inj p q o o' (hs p o hp) (hs q o' hq), fun p o hp => by rw [en]; exact s.bd p o (hs p o hp)⟩, ?_, by rw [en]; exact hv⟩
        refine ⟨by rw [en]; exact x.len, el.trans x.lo, x.agree, fun p o hp hg hl => x.new p o hp (hs p o hg) hl, x.os, x.tape, x.output, x.size, x.keep, fun p hp _ => ?_, fun p o' hp hg hl => x.liv p o' hp (hs p o' hg) hl⟩
        exact hold p hp
theorem chunkF_ok {m : Memo} {fa0 : Fa} {inner inner0 : CallT} (h1 : CallOk E P inner) (h0 : CallOk E P inner0) (hfa0 : FaOk E fa0) (hlo : m.h.lo = .h) (hm : inner0 m.F m.l m.h fa0 (chk m.v m.h') = 0) : CallOk E P (memo m inner) :=
  chunkL_ok h1 h0 hfa0 (fun p hp => by
    rw [hlo] at hp
    have h3 := Ev.P.toNat_pos p
    have h4 : (Ev.P.h).toNat = 1 := rfl
    omega) hm
theorem ms_ok {s : MS} {fa0 : Fa} {inner inner0 : CallT} (hlo : s.h.lo = .h) (hm : s.run inner0 fa0 = 0) (hfa0 : FaOk E fa0) (h0 : CallOk E P inner0) (h1 : CallOk E P inner) : CallOk E P (memo s.m inner) := by
  unfold MS.run at hm
  rw [HS.mkK_eq, HS.mkK_eq] at hm
  exact chunkF_ok h1 h0 hfa0 hlo hm
/-- the memo, its heaps built where they are wanted -/
def memoS (s : MS) (inner : CallT) : CallT := fun F l h fa k => bc (Nat.beq F s.F) (bc (vlBeq l s.l) (s.h.mkK (fun h0 => bc (H.beq h h0) (s.h'.mkK (fun h' => k s.v h' fa)) (inner F l h fa k))) (inner F l h fa k)) (inner F l h fa k)
theorem memoS_eq (s : MS) (inner : CallT) : memoS s inner = memo s.m inner := by
  funext F l h fa k
  unfold memoS memo
  rw [HS.mkK_eq, HS.mkK_eq]
  rfl
theorem msS_ok {s : MS} {fa0 : Fa} {inner inner0 : CallT} (hlo : s.h.lo = .h) (hm : s.run inner0 fa0 = 0) (hfa0 : FaOk E fa0) (h0 : CallOk E P inner0) (h1 : CallOk E P inner) : CallOk E P (memoS s inner) := by
  rw [memoS_eq]
  exact ms_ok hlo hm hfa0 h0 h1
/-- as msS_ok, with one foreign thing ahead of the others -/
theorem msR_ok {s : MS} {fa0 : Fa} {inner inner0 : CallT} (hlo : s.h.lo = .o .h) (hold : ooBeq (s.h'.mk'.t.get .h) (s.h.mk'.t.get .h) = true) (hm : s.run inner0 fa0 = 0) (hfa0 : FaOk E fa0) (h0 : CallOk E P inner0) (h1 : CallOk E P inner) : CallOk E P (memoS s inner) := by
  rw [memoS_eq]
  unfold MS.run at hm
  rw [HS.mkK_eq, HS.mkK_eq] at hm
  refine chunkL_ok h1 h0 hfa0 (fun p hp => ?_) hm
  have hp : p.toNat < s.h.lo.toNat := hp
  rw [hlo] at hp
  have h3 := Ev.P.toNat_pos p
  have h4 : (Ev.P.o .h).toNat = 2 := rfl
  have h5 : (Ev.P.h).toNat = 1 := rfl
  have : p = .h := Ev.P.toNat_inj (by omega)
  subst this
  exact ooBeq_ok hold
/-- a function that hands back one thing that names no thing, and writes nothing that was there: wherever it is called -/
theorem lone_ok {F : Nat} {v : V} {inner : CallT} {fa0 : Fa} (hi : CallOk E P inner) (hfa0 : FaOk E fa0) (hv : v.bd 0) (hr : inner F [] ⟨.h, .h, .e⟩ fa0 (fun u _ _ => bc (V.beq u v) 0 1) = 0) :
    CallOk E P (fun G l h fa k => bc (Nat.beq G F) (lCase (k v h fa) (fun _ _ => 1) l) 1) := by
  intro G l h fa k hk hfa
  obtain ⟨hG, hk2⟩ := bc_ok (show bc (Nat.beq G F) (lCase (k v h fa) (fun _ _ => 1) l) 1 = 0 from hk) (by simp)
  clear hk
  have hG : G = F := by simpa using hG
  subst hG
  cases l with
  | cons a r => exact absurd (show (1 : Nat) = 0 from hk2) (by simp)
  | nil =>
  have hk : k v h fa = 0 := hk2
  obtain ⟨hca, u, h2, fa2, hc, _, hrun⟩ := hi _ _ _ _ _ hr hfa0
  obtain ⟨hu, _⟩ := bc_ok (show bc (V.beq u v) 0 1 = 0 from hc) (by simp)
  have hu := V.beq_ok hu
  subst hu
  refine ⟨hca, u, h, fa, hk, hfa, fun ρ w hb hs => (hrun ρ w trivial ⟨fun p o hp => ?_, fun p q o o' hp => ?_, fun p o hp => ?_⟩).mono ?_⟩
  · exact absurd (show (none : Option O) = some o from (PT.get_e p).symm.trans hp) (by simp)
  · exact absurd (show (none : Option O) = some o from (PT.get_e p).symm.trans hp) (by simp)
  · exact absurd (show (none : Option O) = some o from (PT.get_e p).symm.trans hp) (by simp)
  rintro e w' ⟨ρ', rfl, s, x, hv2⟩
  have hkeep : ∀ b, b < w.heap.size → w'.heap[b]? = w.heap[b]? := fun b hb => x.keep b hb fun p o hp => absurd (show (none : Option O) = some o from (PT.get_e p).symm.trans hp) (by simp)
  refine ⟨ρ, ?_, ⟨fun p o hp => O.Is_heap E (fun hl => hkeep _ (O.Is_lt E (hs.obj p o hp) hl)) (hs.obj p o hp), hs.inj, hs.bd⟩, ?_, bd_mono (Nat.zero_le _) u hv⟩
  · rw [γ_agree E (n := 0) (fun i hi => by omega) u hv]
  · exact ⟨Nat.le_refl _, rfl, fun _ _ => rfl, fun p o h1 h2 => by have := (hs.bd p o h2).1; omega, x.os, x.tape, x.output, x.size, fun b hb _ => hkeep b hb, fun _ _ _ => rfl, fun p o _ h1 _ => ⟨o, h1, by assumption⟩⟩
/-- the end that a law has -/
def endB : K := fun v _ _ => bc (V.beq v (.b true)) 0 1
/-- one of two hooks -/
theorem callOk_bad : CallOk E P (fun _ _ _ _ _ => 1) := fun F l h fa k hk => absurd (show (1 : Nat) = 0 from hk) (by simp)
/-- the tables of functions -/
def TrGood (Q : Nat → IFn → Prop) : Nat → Nat → Nat → Tr IFn → Prop
  | 0, _, b, .leaf a => Q b a
  | d + 1, s, b, .node l r => TrGood Q d (2 * s) b l ∧ TrGood Q d (2 * s) (b + s) r
  | _, _, _, _ => True
theorem even_dec (k : Nat) : even k = decide (k % 2 = 0) := by
  unfold even
  rw [Bool.eq_iff_iff, decide_eq_true_iff, Nat.beq_eq]
  exact Iff.rfl
theorem trGood_get {Q : Nat → IFn → Prop} : ∀ (d s b k : Nat) (t : Tr IFn) (a : IFn), TrGood Q d s b t → k < 2 ^ d → t.get d k = some a → Q (b + s * k) a
  | 0, s, b, k, t, a, hg, hk, h => by
    have : k = 0 := by simpa using hk
    subst this
    cases t with
    | leaf x => have h : some x = some a := h; cases h; exact hg
    | nil => cases h
    | node l r => cases h
  | d + 1, s, b, k, t, a, hg, hk, h => by
    cases t with
    | leaf x => cases h
    | nil => cases h
    | node l r =>
      have h : Bool.rec (motive := fun _ => Option IFn) (r.get d (Nat.div k 2)) (l.get d (Nat.div k 2)) (even k) = some a := h
      rw [even_dec] at h
      have hd : Nat.div k 2 = k / 2 := rfl
      rw [hd] at h
      have hk2 : k / 2 < 2 ^ d := by rw [Nat.pow_succ] at hk; omega
      by_cases e : k % 2 = 0
      · rw [decide_eq_true e] at h
        have := trGood_get d (2 * s) b (k / 2) l a hg.1 hk2 h
        rw [show b + 2 * s * (k / 2) = b + s * k by
          have : k = 2 * (k / 2) := by omega
          conv => rhs; rw [this]
          rw [Nat.mul_comm 2 s, Nat.mul_assoc]] at this
        exact this
      · rw [decide_eq_false e] at h
        have := trGood_get d (2 * s) (b + s) (k / 2) r a hg.2 hk2 h
        rw [show b + s + 2 * s * (k / 2) = b + s * k by
          have : k = 2 * (k / 2) + 1 := by omega
          conv => rhs; rw [this]
          rw [Nat.mul_comm 2 s, Nat.mul_assoc, Nat.mul_add, Nat.mul_one]; omega] at this
        exact this
/-- what a table says of a function -/
def Good (P : Program) (F : Nat) (i : IFn) : Prop := ∃ (f : Func) (dr : Nat → Option Dr), P.funcs[F]? = some f ∧ Callable P F ∧ cFn (tyOf P) dr f = some i ∧ (∀ c, f.body = some c → drawB dr c = true)
def drawF (dr : Nat → Option Dr) (f : Func) : Bool := match f.body with
  | some c => drawB dr c
  | none => true
theorem good_of {F : Nat} {i : IFn} {f : Func} {dr : Nat → Option Dr} (h1 : P.funcs[F]? = some f) (h2 : Callable P F) (h3 : cFn (tyOf P) dr f = some i) (h4 : drawF dr f = true) : Good P F i :=
  ⟨f, dr, h1, h2, h3, fun c hc => by unfold drawF at h4; rw [hc] at h4; exact h4⟩
end Go.Ev
end
/-
  Functions with deferred calls: the evaluator. Definitions alone.
-/
set_option linter.unusedSimpArgs false
set_option linter.unusedVariables false
noncomputable section
namespace Go.Ev
open Go
/-- a deferred call: the function, what it holds, its arguments -/
structure DE where
  F : Nat
  pre : List V
  caps : List V
  l : List V
inductive IX where
  | pure (c : IC) | seq (a b : IX) | cond (t : Ky) (a b : IX) | block (i : Nat) (a : IX) | dfr (l : List OI) (f : Od) (args : List Od) | bad
abbrev K3 := AE → Fr → H → Fa → List DE → Nat
abbrev S3 := Ctx → Fr → H → Fa → List DE → K3 → Nat
def xPure (c : S2) : S3 := fun g fr h fa ds k => c g fr h fa (fun e fr h fa => k e fr h fa ds)
def xSeq (a b : S3) : S3 := fun g fr h fa ds k => a g fr h fa ds (fun e fr h fa ds => aeGo e (b g fr h fa ds k) (k .ret fr h fa ds) (fun i => k (.exit i) fr h fa ds))
def xCond (t : Ky) (a b : S3) : S3 := fun g fr h fa ds k => way fa (fr.get t) (fun x fa => bc x (a g fr h fa ds k) (b g fr h fa ds k)) (err g 44)
def xBlock (i : Nat) (a : S3) : S3 := fun g fr h fa ds k => a g fr h fa ds (fun e fr h fa ds => aeGo e (k .normal fr h fa ds) (k .ret fr h fa ds) (fun j => bc (Nat.beq j i) (k .normal fr h fa ds) (k (.exit j) fr h fa ds)))
def xDfr (l : List OI) (f : Od) (args : List Od) : S3 := fun g fr h fa ds k => opsT l g fr h fa (fun fr h fa => vFn (od f fr) (fun G pre caps => oc (ods args fr) (fun l => k .normal fr h fa (⟨G, pre, caps, l⟩ :: ds)) (err g 71)) (err g 72))
def xBad : S3 := fun g _ _ _ _ _ => err g 73
def codeX : IX → S3
  | .pure c => xPure (codeT c)
  | .seq a b => xSeq (codeX a) (codeX b)
  | .cond t a b => xCond t (codeX a) (codeX b)
  | .block i a => xBlock i (codeX a)
  | .dfr l f args => xDfr l f args
  | .bad => xBad
def noDef : Code → Bool
  | .seq a b => noDef a && noDef b
  | .cond _ a b => noDef a && noDef b
  | .block _ a => noDef a
  | .loop a => noDef a
  | .scope a => noDef a
  | .region _ ops _ => allB (fun o : Oper => match o.op with | .defer _ => false | _ => true) ops.toList
  | _ => true
/-- all but the last one, the last one -/
def lastOf {α : Type} : List α → Option (List α × α)
  | [] => none
  | [a] => some ([], a)
  | a :: r => (lastOf r).map (fun p => (a :: p.1, p.2))
def cDfr (Y : Ty) (N : Nat) (ops : List Oper) : IX := match lastOf ops with
  | some (l, o) => match cOpers Y N ops l, o.op, o.dst, o.guard with
    | some l, .defer c, none, none => match c.callee with
      | .value f => match cOd f, cOds c.args.toList with
        | some f, some args => .dfr l f args
        | _, _ => .bad
      | _ => .bad
    | _, _, _, _ => .bad
  | none => .bad
def cCodeX (Y : Ty) (N : Nat) (dr : Nat → Option Dr) (c : Code) : IX :=
  bc (noDef c) (.pure (cCode Y N dr c)) (match c with
    | .seq a b => .seq (cCodeX Y N dr a) (cCodeX Y N dr b)
    | .cond (.tmp t) a b => .cond (keyOf t) (cCodeX Y N dr a) (cCodeX Y N dr b)
    | .block i a => .block i (cCodeX Y N dr a)
    | .scope a => cCodeX Y N dr a
    | .region _ ops false => cDfr Y N ops.toList
    | _ => .bad)
structure IFx where
  body : IX
  res : List IR
def cFnX (Y : Ty) (dr : Nat → Option Dr) (f : Func) : Option IFx :=
  match f.body, cRes Y f.results.toList with
  | some c, some rs => some ⟨cCodeX Y f.ntmps dr c, rs⟩
  | _, _ => none
def leaveN : H → Fa → (H → Fa → Nat) → Nat := fun h fa k => k h fa
def leaveC (dcall : CallT) (d : DE) (_ : List DE) (ih : H → Fa → (H → Fa → Nat) → Nat) : H → Fa → (H → Fa → Nat) → Nat :=
  fun h fa k => DE.rec (motive := fun _ => Nat) (fun F pre caps l => dcall F (app pre (app l caps)) h fa (fun _ h fa => ih h fa k)) d
def leaveT (dcall : CallT) (ds : List DE) : H → Fa → (H → Fa → Nat) → Nat := lRec leaveN (leaveC dcall) ds
/-- a function that defers -/
def dfnT (b : IX) (rs : List IR) (call dcall : CallT) (F fuel : Nat) (l : List V) (h : H) (fa : Fa) (k : K) : Nat :=
  initFr l (fun fr => codeX b ⟨call, F, fuel⟩ fr h fa [] (fun e fr h fa ds => aeGo e
    (leaveT dcall ds h fa (fun h fa => resT rs fr h (fun v => k v h fa) 1))
    (leaveT dcall ds h fa (fun h fa => resT rs fr h (fun v => k v h fa) 1)) (fun _ => 1)))
/-- deferred calls by the tables alone -/
def dcallT (C : Cx) (inner : CallT) : CallT := fun G l h fa k => oc (C.fn G) (fun f => callF C inner G f l h fa k) 1
end Go.Ev
end
/-
  Functions with deferred calls: the evaluator is right.
-/
set_option linter.unusedSimpArgs false
set_option linter.unusedVariables false
noncomputable section
namespace Go.Ev
open Go
variable {E : Env} {P : Program} {N : Nat}
def DE.γ (E : Env) (ρ : Rho) (d : DE) : Deferred := { target := .fn (.func d.F) (γL E ρ d.caps).toArray, args := (γL E ρ d.pre).toArray ++ (γL E ρ d.l).toArray }
def DE.bd (n : Nat) (d : DE) : Prop := bdL n d.pre ∧ bdL n d.caps ∧ bdL n d.l
def DsOk (E : Env) (ρ : Rho) (n : Nat) (ds : List DE) (dl : List Deferred) : Prop := dl = ds.map (DE.γ E ρ) ∧ ∀ d ∈ ds, d.bd n
theorem DsOk.mono {ρ ρ' : Rho} {n n' : Nat} {ds : List DE} {dl : List Deferred} (h : DsOk E ρ n ds dl) (hn : n ≤ n') (ha : ∀ i : Ev.P, i.toNat < n → ρ' i = ρ i) : DsOk E ρ' n' ds dl := by
  obtain ⟨rfl, hb⟩ := h
  refine ⟨List.map_congr_left fun d hd => ?_, fun d hd => ?_⟩
  · obtain ⟨b1, b2, b3⟩ := hb d hd
    simp only [DE.γ, γL_agree E ha _ b1, γL_agree E ha _ b2, γL_agree E ha _ b3]
  · obtain ⟨b1, b2, b3⟩ := hb d hd
    exact ⟨bdL_mono hn _ b1, bdL_mono hn _ b2, bdL_mono hn _ b3⟩
def AtX (E : Env) (N : Nat) (ρ : Rho) (h : H) (w : World) (fr' : Fr) (h' : H) (ds' : List DE) (a' : Act) (w' : World) : Prop :=
  ∃ ρ', FrOk E ρ' h'.n.toNat fr' a'.tmps ∧ N ≤ a'.tmps.size ∧ DsOk E ρ' h'.n.toNat ds' a'.defers ∧ Sat E ρ' h' w' ∧ Ext ρ h w ρ' h' w'
def RunsX (E : Env) (P : Program) (N : Nat) (c : Code) (fr : Fr) (h : H) (ds : List DE) (k : K3) : Prop :=
  ∃ ae fr' h' fa' ds', k ae fr' h' fa' ds' = 0 ∧ FaOk E fa' ∧ ∀ ρ w a QQ, Sat E ρ h w → FrOk E ρ h.n.toNat fr (a : Act).tmps → N ≤ a.tmps.size → DsOk E ρ h.n.toNat ds a.defers →
    (∀ a' w', AtX E N ρ h w fr' h' ds' a' w' → QQ (AE.exit' ae) a' w') → c.wp P QQ a w
theorem AtX.trans {ρ ρ1 : Rho} {h h1 : H} {w w1 : World} (hx : Ext ρ h w ρ1 h1 w1) {fr : Fr} {h' : H} {ds : List DE} {a : Act} {w' : World} (s : AtX E N ρ1 h1 w1 fr h' ds a w') : AtX E N ρ h w fr h' ds a w' := by
  obtain ⟨ρ', s1, s2, s3, s4, s5⟩ := s
  exact ⟨ρ', s1, s2, s3, s4, hx.trans s5⟩
theorem opsT_run' {Y : Ty} (hY : TyOk P Y) {ops : Array Oper} {c : Ctx} (hcall : CallOk E P c.call) {k : K1} (rest : List Oper) : ∀ (l : List Oper) (l' : List OI) (fr : Fr) (h : H) (fa : Fa), cOpers Y N ops.toList l = some l' → FaOk E fa → opsT l' c fr h fa k = 0 →
    ∃ fr' h' fa', k fr' h' fa' = 0 ∧ FaOk E fa' ∧ ∀ {DS : List Deferred} ρ w a QQ, Sat E ρ h w → FrOk E ρ h.n.toNat fr (a : Act).tmps → N ≤ a.tmps.size → a.defers = DS → (∀ a' w', At E N DS ρ h w fr' h' a' w' → wpList P ops QQ rest a' w') → wpList P ops QQ (l ++ rest) a w
  | [], l', fr, h, fa, hl, hfa, hk => by
    simp [cOpers] at hl; subst hl
    exact ⟨fr, h, fa, hk, hfa, fun {DS} ρ w a QQ hs hf hN hd hq => hq a w ⟨ρ, hf, hN, hd, hs, hs.refl E⟩⟩
  | o :: r, l', fr, h, fa, hl, hfa, hk => by
    obtain ⟨x, l2, hx, hl2, rfl⟩ := cOpers_cons hl
    have hk : OI.go stepOp stepCall x c fr h fa (fun fr h fa => opsT l2 c fr h fa k) = 0 := hk
    obtain ⟨fr1, h1, fa1, hk1, hfa1, h2⟩ := step_run hY hx hcall hfa hk
    obtain ⟨fr2, h2', fa2, hk2, hfa2, h3⟩ := opsT_run' hY hcall rest r l2 fr1 h1 fa1 hl2 hfa1 hk1
    refine ⟨fr2, h2', fa2, hk2, hfa2, fun {DS} ρ w a QQ hs hf hN hd hq => ?_⟩
    have next : ∀ a1 w1, At E N DS ρ h w fr1 h1 a1 w1 → wpList P ops QQ (r ++ rest) a1 w1 := by
      rintro a1 w1 ⟨ρ1, f1, n1, d1, s1, x1⟩
      exact h3 ρ1 w1 a1 QQ s1 f1 n1 d1 (fun a' w' hA => hq a' w' (hA.trans x1))
    show wpList P ops QQ (o :: (r ++ rest)) a w
    unfold wpList
    rcases h2 ρ w a QQ hs hf hN hd with ⟨hw, hwp⟩ | ⟨hw, hA⟩
    · rw [if_pos hw]
      exact .inl (wp_mono' next hwp)
    · rw [if_neg (by simp [hw])]
      exact next _ _ hA
theorem lastOf_eq {α : Type} : ∀ (l : List α) {m : List α} {a : α}, lastOf l = some (m, a) → l = m ++ [a]
  | [], m, a, h => by simp [lastOf] at h
  | [x], m, a, h => by simp [lastOf] at h; obtain ⟨rfl, rfl⟩ := h; rfl
  | x :: y :: r, m, a, h => by
    simp only [lastOf, Option.map_eq_some_iff] at h
    obtain ⟨⟨m', a'⟩, h1, h2⟩ := h
    cases h2
    rw [lastOf_eq (y :: r) h1]
    rfl
theorem vFn_ok {x : Option V} {f : Nat → List V → List V → Nat} {e : Nat} (h : vFn x f e = 0) (he : e ≠ 0) : ∃ F p l, x = some (.fn F p l) ∧ f F p l = 0 := by
  unfold vFn at h
  split at h
  · exact ⟨_, _, _, rfl, h⟩
  · exact absurd h he
theorem pureX_run {Y : Ty} (hY : TyOk P Y) (hm : P.follows .mixedOrders = true) {dr : Nat → Option Dr} {g : Ctx} (hcall : CallOk E P g.call) (c : Code) (fr : Fr) (h : H) (fa : Fa) (ds : List DE) (k : K3) (hB : drawB dr c = true) (hfa : FaOk E fa)
    (hk : codeX (.pure (cCode Y N dr c)) g fr h fa ds k = 0) : RunsX E P N c fr h ds k := by
  obtain ⟨ae, fr1, h1, fa1, hk1, hfa1, r1⟩ := codeT_run hY hm hcall c fr h fa (fun e fr h fa => k e fr h fa ds) hB hfa hk
  refine ⟨ae, fr1, h1, fa1, ds, hk1, hfa1, fun ρ w a QQ hs hf hN hd hQ => r1 ρ w a QQ hs hf hN rfl ?_⟩
  rintro a' w' ⟨ρ1, f1, n1, d1, s1, x1⟩
  exact hQ a' w' ⟨ρ1, f1, n1, d1 ▸ hd.mono x1.len x1.agree, s1, x1⟩
theorem badX {g : Ctx} {fr : Fr} {h : H} {fa : Fa} {ds : List DE} {k : K3} (hk : codeX .bad g fr h fa ds k = 0) : False := err_ne _ _ hk
theorem dfr_run {Y : Ty} (hY : TyOk P Y) {g : Ctx} (hcall : CallOk E P g.call) {id : Nat} {ops : Array Oper} {fr : Fr} {h : H} {fa : Fa} {ds : List DE} {k : K3} (hfa : FaOk E fa)
    (hk : codeX (cDfr Y N ops.toList) g fr h fa ds k = 0) : RunsX E P N (.region id ops false) fr h ds k := by
  unfold cDfr at hk
  split at hk
  rotate_left
  · exact (badX hk).elim
  rename_i l o hlast
  split at hk
  rotate_left
  · exact (badX hk).elim
  rename_i l' c hl hop hdst hgu
  split at hk
  rotate_left
  · exact (badX hk).elim
  rename_i f0 hcal
  split at hk
  rotate_left
  · exact (badX hk).elim
  rename_i f args hf0 hargs
  have hk : opsT l' g fr h fa (fun fr h fa => vFn (od f fr) (fun G pre caps => oc (ods args fr) (fun l => k .normal fr h fa (⟨G, pre, caps, l⟩ :: ds)) (err g 71)) (err g 72)) = 0 := hk
  obtain ⟨fr1, h1, fa1, hk1, hfa1, r1⟩ := opsT_run' hY hcall [o] l l' fr h fa hl hfa hk
  obtain ⟨G, pre, caps, hG, hk1⟩ := vFn_ok hk1 (err_ne _ _)
  obtain ⟨vs, hvs, hk1⟩ := oc_ok hk1 (err_ne _ _)
  refine ⟨.normal, fr1, h1, fa1, ⟨G, pre, caps, vs⟩ :: ds, hk1, hfa1, fun ρ w a QQ hs hf hN hd hQ => wp_region_list ?_⟩
  rw [lastOf_eq _ hlast]
  refine r1 ρ w a QQ hs hf hN rfl ?_
  rintro a1 w1 ⟨ρ1, f1, n1, d1, s1, x1⟩
  obtain ⟨e1, b1⟩ := od_run f1 hf0 hG
  obtain ⟨e2, b2⟩ := ods_run f1 hargs hvs
  have hdd : DsOk E ρ1 h1.n.toNat ds a1.defers := d1 ▸ hd.mono x1.len x1.agree
  have hargs : c.args.map a1.eval = (γL E ρ1 vs).toArray := Array.toList_inj.1 (by rw [Array.toList_map]; exact e2)
  have hex : (execOp a1.eval o).run P w1 = .ok (.defer (DE.γ E ρ1 ⟨G, pre, caps, vs⟩)) w1 := by
    simp [execOp, hop, resolve, hcal, e1, V.γ, Deferred.ofValue, hargs, DE.γ]
  unfold wpList
  rw [if_pos (by simp [Region.wanted, hgu])]
  refine .inl ?_
  unfold Oper.wp
  rw [hex, Oper.upon_defer]
  show QQ .normal _ w1
  refine hQ _ w1 ⟨ρ1, ?_, ?_, ⟨?_, ?_⟩, s1, x1⟩
  · simpa [Act.put, hdst] using f1
  · simpa [Act.put, hdst] using n1
  · simp only [Act.put, hdst, List.map_cons]
    rw [hdd.1]
  · intro d hd
    rcases List.mem_cons.1 hd with rfl | hd
    · exact ⟨b1.1, b1.2, b2⟩
    · exact hdd.2 d hd
theorem codeX_run {Y : Ty} (hY : TyOk P Y) (hm : P.follows .mixedOrders = true) {dr : Nat → Option Dr} {g : Ctx} (hcall : CallOk E P g.call) : ∀ (c : Code) (fr : Fr) (h : H) (fa : Fa) (ds : List DE) (k : K3), drawB dr c = true → FaOk E fa →
    codeX (cCodeX Y N dr c) g fr h fa ds k = 0 → RunsX E P N c fr h ds k
  | .seq x y, fr, h, fa, ds, k, hB, hfa, hk => by
    unfold cCodeX at hk
    cases hn : noDef (.seq x y) with
    | true => rw [hn] at hk; exact pureX_run hY hm hcall _ fr h fa ds k hB hfa hk
    | false =>
      rw [hn] at hk
      have hk : codeX (cCodeX Y N dr x) g fr h fa ds (fun e fr h fa ds => aeGo e (codeX (cCodeX Y N dr y) g fr h fa ds k) (k .ret fr h fa ds) (fun i => k (.exit i) fr h fa ds)) = 0 := hk
      simp only [drawB, Bool.and_eq_true] at hB
      obtain ⟨ae, fr1, h1, fa1, ds1, hk1, hfa1, r1⟩ := codeX_run hY hm hcall x fr h fa ds _ hB.1 hfa hk
      cases ae with
      | normal =>
        obtain ⟨ae, fr2, h2, fa2, ds2, hk2, hfa2, r2⟩ := codeX_run hY hm hcall y fr1 h1 fa1 ds1 k hB.2 hfa1 hk1
        refine ⟨ae, fr2, h2, fa2, ds2, hk2, hfa2, fun ρ w a QQ hs hf hN hd hQ => wp_seq (r1 ρ w a _ hs hf hN hd ?_)⟩
        rintro a1 w1 ⟨ρ1, f1, n1, d1, s1, x1⟩
        exact r2 ρ1 w1 a1 QQ s1 f1 n1 d1 fun a' w' hA => hQ a' w' (hA.trans x1)
      | ret => exact ⟨.ret, fr1, h1, fa1, ds1, hk1, hfa1, fun ρ w a QQ hs hf hN hd hQ => wp_seq (r1 ρ w a _ hs hf hN hd hQ)⟩
      | exit i => exact ⟨.exit i, fr1, h1, fa1, ds1, hk1, hfa1, fun ρ w a QQ hs hf hN hd hQ => wp_seq (r1 ρ w a _ hs hf hN hd hQ)⟩
  | .cond o x y, fr, h, fa, ds, k, hB, hfa, hk => by
    unfold cCodeX at hk
    cases hn : noDef (.cond o x y) with
    | true => rw [hn] at hk; exact pureX_run hY hm hcall _ fr h fa ds k hB hfa hk
    | false =>
      rw [hn] at hk
      simp only [drawB, Bool.and_eq_true] at hB
      cases o with
      | tmp t =>
        have hk : way fa (fr.get (keyOf t)) (fun b fa => bc b (codeX (cCodeX Y N dr x) g fr h fa ds k) (codeX (cCodeX Y N dr y) g fr h fa ds k)) (err g 44) = 0 := hk
        obtain ⟨v, b, fa', hv, hb, hfa', hk⟩ := way_ok hk (err_ne _ _) hfa (fun _ => ⟨0, 0⟩)
        have hev : ∀ ρ n (a : Act), FrOk E ρ n fr a.tmps → a.eval (.tmp t) = .bool b := by
          intro ρ n a hf
          have h1 := (hf t v hv).1
          have h2 : v.γ E ρ = .bool b := by cases v <;> simp [V.γ] at hb ⊢ <;> exact hb
          simp [Act.eval, h1, h2]
        cases b with
        | true =>
          obtain ⟨ae, fr1, h1, fa1, ds1, hk1, hfa1, r1⟩ := codeX_run hY hm hcall x fr h fa' ds k hB.1 hfa' hk
          exact ⟨ae, fr1, h1, fa1, ds1, hk1, hfa1, fun ρ w a QQ hs hf hN hd hQ => wp_cond_true (hev ρ _ a hf) (r1 ρ w a QQ hs hf hN hd hQ)⟩
        | false =>
          obtain ⟨ae, fr1, h1, fa1, ds1, hk1, hfa1, r1⟩ := codeX_run hY hm hcall y fr h fa' ds k hB.2 hfa' hk
          exact ⟨ae, fr1, h1, fa1, ds1, hk1, hfa1, fun ρ w a QQ hs hf hN hd hQ => wp_cond_false (hev ρ _ a hf) (r1 ρ w a QQ hs hf hN hd hQ)⟩
      | _ => exact (badX hk).elim
  | .block i x, fr, h, fa, ds, k, hB, hfa, hk => by
    unfold cCodeX at hk
    cases hn : noDef (.block i x) with
    | true => rw [hn] at hk; exact pureX_run hY hm hcall _ fr h fa ds k hB hfa hk
    | false =>
      rw [hn] at hk
      simp only [drawB] at hB
      have hk : codeX (cCodeX Y N dr x) g fr h fa ds (fun e fr h fa ds => aeGo e (k .normal fr h fa ds) (k .ret fr h fa ds) (fun j => bc (Nat.beq j i) (k .normal fr h fa ds) (k (.exit j) fr h fa ds))) = 0 := hk
      obtain ⟨ae, fr1, h1, fa1, ds1, hk1, hfa1, r1⟩ := codeX_run hY hm hcall x fr h fa ds _ hB hfa hk
      cases ae with
      | normal => exact ⟨.normal, fr1, h1, fa1, ds1, hk1, hfa1, fun ρ w a QQ hs hf hN hd hQ => wp_block (r1 ρ w a _ hs hf hN hd hQ)⟩
      | ret => exact ⟨.ret, fr1, h1, fa1, ds1, hk1, hfa1, fun ρ w a QQ hs hf hN hd hQ => wp_block (r1 ρ w a _ hs hf hN hd hQ)⟩
      | exit j =>
        have hk2 : bc (Nat.beq j i) (k .normal fr1 h1 fa1 ds1) (k (.exit j) fr1 h1 fa1 ds1) = 0 := hk1
        clear hk1
        cases hj : Nat.beq j i with
        | true =>
          rw [hj] at hk2
          have hj : j = i := by simpa using hj
          subst hj
          refine ⟨.normal, fr1, h1, fa1, ds1, hk2, hfa1, fun ρ w a QQ hs hf hN hd hQ => wp_block (r1 ρ w a _ hs hf hN hd fun a' w' hA => ?_)⟩
          show Exit.inBlock j _ (.exit j) a' w'
          simp only [Exit.inBlock, if_true]
          exact hQ a' w' hA
        | false =>
          rw [hj] at hk2
          have hj : ¬ j = i := by
            intro e; subst e; simp at hj
          refine ⟨.exit j, fr1, h1, fa1, ds1, hk2, hfa1, fun ρ w a QQ hs hf hN hd hQ => wp_block (r1 ρ w a _ hs hf hN hd fun a' w' hA => ?_)⟩
          show Exit.inBlock i _ (.exit j) a' w'
          simp only [Exit.inBlock, hj, if_false]
          exact hQ a' w' hA
  | .scope x, fr, h, fa, ds, k, hB, hfa, hk => by
    unfold cCodeX at hk
    cases hn : noDef (.scope x) with
    | true => rw [hn] at hk; exact pureX_run hY hm hcall _ fr h fa ds k hB hfa hk
    | false =>
      rw [hn] at hk
      simp only [drawB] at hB
      obtain ⟨ae, fr1, h1, fa1, ds1, hk1, hfa1, r1⟩ := codeX_run hY hm hcall x fr h fa ds k hB hfa hk
      exact ⟨ae, fr1, h1, fa1, ds1, hk1, hfa1, fun ρ w a QQ hs hf hN hd hQ => wp_scope_straight (r1 ρ w a _ hs hf hN hd (by cases ae <;> exact hQ))⟩
  | .region id ops b, fr, h, fa, ds, k, hB, hfa, hk => by
    unfold cCodeX at hk
    cases hn : noDef (.region id ops b) with
    | true => rw [hn] at hk; exact pureX_run hY hm hcall _ fr h fa ds k hB hfa hk
    | false =>
      rw [hn] at hk
      cases b with
      | true => exact (badX hk).elim
      | false => exact dfr_run hY hcall hfa hk
  | .skip, fr, h, fa, ds, k, hB, hfa, hk => pureX_run hY hm hcall _ fr h fa ds k hB hfa hk
  | .ret, fr, h, fa, ds, k, hB, hfa, hk => pureX_run hY hm hcall _ fr h fa ds k hB hfa hk
  | .exit i, fr, h, fa, ds, k, hB, hfa, hk => pureX_run hY hm hcall _ fr h fa ds k hB hfa hk
  | .label i, fr, h, fa, ds, k, hB, hfa, hk => pureX_run hY hm hcall _ fr h fa ds k hB hfa hk
  | .loop x, fr, h, fa, ds, k, hB, hfa, hk => by
    unfold cCodeX at hk
    cases hn : noDef (.loop x) with
    | true => rw [hn] at hk; exact pureX_run hY hm hcall _ fr h fa ds k hB hfa hk
    | false => rw [hn] at hk; exact (badX hk).elim
  | .rangeFunc _ _ _ _, fr, h, fa, ds, k, hB, hfa, hk => pureX_run hY hm hcall _ fr h fa ds k hB hfa hk
  | .goto _, fr, h, fa, ds, k, hB, hfa, hk => pureX_run hY hm hcall _ fr h fa ds k hB hfa hk
  | .refuse _, fr, h, fa, ds, k, hB, hfa, hk => pureX_run hY hm hcall _ fr h fa ds k hB hfa hk
/-- a call that is deferred -/
def DCallOk (E : Env) (P : Program) (dcall : CallT) : Prop := ∀ F l h fa k, dcall F l h fa k = 0 → FaOk E fa → Callable P F ∧ ∃ v h' fa', k v h' fa' = 0 ∧ FaOk E fa' ∧
  ∀ u ρ w, bdL h.n.toNat l → Sat E ρ h w → CallsD P F (γL E ρ l).toArray u w fun e u' w' => u' = u ∧ ∃ ρ', e = .returned (v.γ E ρ') ∧ Sat E ρ' h' w' ∧ Ext ρ h w ρ' h' w' ∧ v.bd h'.n.toNat
theorem dcallT_ok {Y : Ty} {C : Cx} (hC : CxOk E P Y C) {inner : CallT} (ih : CallOk E P inner) : DCallOk E P (dcallT C inner) := by
    intro F l h fa k hk hfa
    have hk : oc (C.fn F) (fun f => callF C inner F f l h fa k) 1 = 0 := hk
    cases hF : C.fn F with
    | none => rw [hF] at hk; exact absurd (show (1 : Nat) = 0 from hk) (by simp)
    | some i =>
        rw [hF] at hk
        have hk : callF C inner F i l h fa k = 0 := hk
        obtain ⟨f, dr, hfn, hca, hcf, hdr⟩ := hC.fn F i hF
        refine ⟨hca, ?_⟩
        unfold cFn at hcf
        split at hcf
        rotate_left
        · simp at hcf
        rename_i c rs hc hrs
        simp at hcf; subst hcf
        obtain ⟨fr, hk, hfr⟩ := initFr_ok hk
        obtain ⟨ae, fr1, h1, fa1, hk1, hfa1, hrun⟩ := codeT_run hC.ty hC.mixed (g := ⟨inner, F, C.fuel⟩) ih c fr h fa _ (hdr c hc) hfa hk
        have fin : (AE.exit' ae = .normal ∨ AE.exit' ae = .ret) → resT rs fr1 h1 (fun v => k v h1 fa1) (Nat.succ (Nat.add (Nat.mul F 100) 49)) = 0 → ∃ v h' fa', k v h' fa' = 0 ∧ FaOk E fa' ∧
            ∀ u ρ w, bdL h.n.toNat l → Sat E ρ h w → CallsD P F (γL E ρ l).toArray u w fun e u' w' => u' = u ∧ ∃ ρ', e = .returned (v.γ E ρ') ∧ Sat E ρ' h' w' ∧ Ext ρ h w ρ' h' w' ∧ v.bd h'.n.toNat := by
          intro hae hr
          obtain ⟨vs, hvs, hr⟩ := oc_ok (show oc (resVs fr1 h1 rs) _ _ = 0 from hr) (by simp)
          have hv : ∃ v, k v h1 fa1 = 0 ∧ (∀ n, bdL n vs → v.bd n) ∧ ∀ ρ, (if h : (γL E ρ vs).toArray.size = 1 then (γL E ρ vs).toArray[0] else .tuple (γL E ρ vs).toArray) = v.γ E ρ := by
            match vs, hr with
            | [], hr => exact ⟨.tup [], hr, fun n hn => hn, fun ρ => rfl⟩
            | [x], hr => exact ⟨x, hr, fun n hn => hn.1, fun ρ => by simp [γL]⟩
            | x :: y :: r, hr => exact ⟨.tup (x :: y :: r), hr, fun n hn => hn, fun ρ => by simp [γL, V.γ]⟩
          obtain ⟨v, hkv, hvb, hvγ⟩ := hv
          refine ⟨v, h1, fa1, hkv, hfa1, fun u ρ w hb hs => ?_⟩
          refine callsD_of_wp hfn hc ?_
          · have hf : FrOk E ρ h.n.toNat fr ((γL E ρ l).toArray ++ Array.replicate (f.ntmps - (γL E ρ l).toArray.size) undef) := by
              intro t v hv
              have h2 := hfr t v hv
              have ht : t < l.length := (List.getElem?_eq_some_iff.1 h2).1
              refine ⟨?_, (bdL_eq _ l).1 hb v (List.mem_of_getElem? h2)⟩
              rw [Array.getElem?_append_left (by simp [γL_length]; exact ht)]
              simp [γL_get, h2]
            refine hrun ρ w { tmps := (γL E ρ l).toArray ++ Array.replicate (f.ntmps - (γL E ρ l).toArray.size) undef, defers := [] } _ hs hf (by simp [γL_length]; omega) rfl ?_
            rintro a1 w1 ⟨ρ1, f1, n1, d1, s1, x1⟩
            obtain ⟨e1, b1⟩ := results_run hC.ty hrs s1 f1 hvs
            rw [hvγ] at e1
            have : bodyPost P f (fun e w' => ∃ ρ', e = .returned (v.γ E ρ') ∧ Sat E ρ' h1 w' ∧ Ext ρ h w ρ' h1 w' ∧ v.bd h1.n.toNat) .ret a1 w1 := ⟨d1, _, e1, ρ1, rfl, s1, x1, hvb _ b1⟩
            rcases hae with h | h <;> rw [h] <;> exact this
        cases ae with
        | normal => exact fin (.inl rfl) hk1
        | ret => exact fin (.inr rfl) hk1
        | exit i => exact absurd (show Nat.succ _ = 0 from hk1) (by simp)
/-- the deferred calls, one by one -/
theorem leaveT_run {dcall : CallT} (hd : DCallOk E P dcall) : ∀ (ds : List DE) (h : H) (fa : Fa) (k : H → Fa → Nat), leaveT dcall ds h fa k = 0 → FaOk E fa → ∃ h' fa', k h' fa' = 0 ∧ FaOk E fa' ∧
    ∀ (fn : Func) (tmps : Array Value) ρ w dl (R : Ending → World → Prop), Sat E ρ h w → DsOk E ρ h.n.toNat ds dl → (∀ ρ' w', Sat E ρ' h' w' → Ext ρ h w ρ' h' w' → ∃ v, (results fn tmps).run P w' = .ok v w' ∧ R (.returned v) w') → Leaves P fn tmps R dl .returning w
  | [], h, fa, k, hk, hfa => ⟨h, fa, hk, hfa, fun fn tmps ρ w dl R hs hdl hR => by rw [hdl.1]; exact hR ρ w hs (hs.refl E)⟩
  | d :: r, h, fa, k, hk, hfa => by
    obtain ⟨F, pre, caps, l⟩ := d
    have hk : dcall F (app pre (app l caps)) h fa (fun _ h fa => leaveT dcall r h fa k) = 0 := hk
    obtain ⟨hca, v, h1, fa1, hk1, hfa1, r1⟩ := hd F _ h fa _ hk hfa
    obtain ⟨h2, fa2, hk2, hfa2, r2⟩ := leaveT_run hd r h1 fa1 k hk1 hfa1
    refine ⟨h2, fa2, hk2, hfa2, fun fn tmps ρ w dl R hs hdl hR => ?_⟩
    obtain ⟨rfl, hb⟩ := hdl
    obtain ⟨b1, b2, b3⟩ := hb _ (List.mem_cons_self ..)
    have hbd : bdL h.n.toNat (app pre (app l caps)) := by
      rw [app_eq, app_eq, bdL_eq]
      intro x hx
      rcases List.mem_append.1 hx with h1 | h1
      · exact (bdL_eq _ pre).1 b1 x h1
      · rcases List.mem_append.1 h1 with h1 | h1
        · exact (bdL_eq _ l).1 b3 x h1
        · exact (bdL_eq _ caps).1 b2 x h1
    refine leaves_cons (f := F) (args := (γL E ρ (app pre (app l caps))).toArray) (by simp) ?_ ?_
    · have : (invoke (.fn (.func F) (γL E ρ caps).toArray) ((γL E ρ pre).toArray ++ (γL E ρ l).toArray)) = callFunc F ((γL E ρ pre).toArray ++ (γL E ρ l).toArray ++ (γL E ρ caps).toArray) := rfl
      rw [this, hca, app_eq, app_eq, γL_app, γL_app]
      simp
    · refine (r1 .returning ρ w hbd hs).mono ?_
      rintro e u' w' ⟨rfl, ρ', rfl, s1, x1, _⟩
      show Leaves P fn tmps R _ .returning w'
      refine r2 fn tmps ρ' w' _ R s1 ?_ fun ρ2 w2 s2 x2 => hR ρ2 w2 s2 (x1.trans x2)
      exact DsOk.mono (ds := r) ⟨rfl, fun d hd => hb d (List.mem_cons_of_mem _ hd)⟩ x1.len x1.agree
/-- a function that defers -/
theorem dfn_ok {Y : Ty} (hY : TyOk P Y) (hm : P.follows .mixedOrders = true) {call dcall : CallT} (hcall : CallOk E P call) (hdc : DCallOk E P dcall) {dr : Nat → Option Dr} {fuel F : Nat} {f : Func} {i : IFx} (hfn : P.funcs[F]? = some f) (hca : Callable P F)
    (hi : cFnX Y dr f = some i) (hdr : ∀ c, f.body = some c → drawB dr c = true) : CallOk E P (fun G l h fa k => bc (Nat.beq G F) (dfnT i.body i.res call dcall F fuel l h fa k) 1) := by
  intro G l h fa k hk hfa
  obtain ⟨hG, hk⟩ := bc_ok (show bc (Nat.beq G F) _ 1 = 0 from hk) (by simp)
  have hG : G = F := by simpa using hG
  subst hG
  refine ⟨hca, ?_⟩
  unfold cFnX at hi
  split at hi
  rotate_left
  · simp at hi
  rename_i c rs hb hrs
  simp at hi; subst hi
  obtain ⟨fr, hk, hfr⟩ := initFr_ok hk
  obtain ⟨ae, fr1, h1, fa1, ds1, hk1, hfa1, r1⟩ := codeX_run hY hm (g := ⟨call, G, fuel⟩) hcall c fr h fa [] _ (hdr c hb) hfa hk
  have fin : (AE.exit' ae = .normal ∨ AE.exit' ae = .ret) → leaveT dcall ds1 h1 fa1 (fun h fa => resT rs fr1 h (fun v => k v h fa) 1) = 0 → ∃ v h' fa', k v h' fa' = 0 ∧ FaOk E fa' ∧
      ∀ ρ w, bdL h.n.toNat l → Sat E ρ h w → Calls P G (γL E ρ l).toArray w fun e w' => ∃ ρ', e = .returned (v.γ E ρ') ∧ Sat E ρ' h' w' ∧ Ext ρ h w ρ' h' w' ∧ v.bd h'.n.toNat := by
    intro hae hl
    obtain ⟨h2, fa2, hr, hfa2, hlv⟩ := leaveT_run hdc ds1 h1 fa1 _ hl hfa1
    obtain ⟨vs, hvs, hr⟩ := oc_ok (show oc (resVs fr1 h2 rs) _ _ = 0 from hr) (by simp)
    have hv : ∃ v, k v h2 fa2 = 0 ∧ (∀ n, bdL n vs → v.bd n) ∧ ∀ ρ, (if h : (γL E ρ vs).toArray.size = 1 then (γL E ρ vs).toArray[0] else .tuple (γL E ρ vs).toArray) = v.γ E ρ := by
      match vs, hr with
      | [], hr => exact ⟨.tup [], hr, fun n hn => hn, fun ρ => rfl⟩
      | [x], hr => exact ⟨x, hr, fun n hn => hn.1, fun ρ => by simp [γL]⟩
      | x :: y :: r, hr => exact ⟨.tup (x :: y :: r), hr, fun n hn => hn, fun ρ => by simp [γL, V.γ]⟩
    obtain ⟨v, hkv, hvb, hvγ⟩ := hv
    refine ⟨v, h2, fa2, hkv, hfa2, fun ρ w hbd hs => calls_of_wp_defers hfn hb ?_⟩
    have hf : FrOk E ρ h.n.toNat fr ((γL E ρ l).toArray ++ Array.replicate (f.ntmps - (γL E ρ l).toArray.size) undef) := by
      intro t v hv
      have h2 := hfr t v hv
      have ht : t < l.length := (List.getElem?_eq_some_iff.1 h2).1
      refine ⟨?_, (bdL_eq _ l).1 hbd v (List.mem_of_getElem? h2)⟩
      rw [Array.getElem?_append_left (by simp [γL_length]; exact ht)]
      simp [γL_get, h2]
    refine r1 ρ w { tmps := (γL E ρ l).toArray ++ Array.replicate (f.ntmps - (γL E ρ l).toArray.size) undef, defers := [] } _ hs hf (by simp [γL_length]; omega) ⟨rfl, by simp⟩ ?_
    rintro a1 w1 ⟨ρ1, f1, n1, d1, s1, x1⟩
    have : bodyPostD P f (fun e w' => ∃ ρ', e = .returned (v.γ E ρ') ∧ Sat E ρ' h2 w' ∧ Ext ρ h w ρ' h2 w' ∧ v.bd h2.n.toNat) .ret a1 w1 := by
      show Leaves P f a1.tmps _ a1.defers .returning w1
      refine hlv f a1.tmps ρ1 w1 _ _ s1 d1 ?_
      intro ρ2 w2 s2 x2
      obtain ⟨e1, b1⟩ := results_run hY hrs s2 (f1.mono x2.len x2.agree) hvs
      rw [hvγ] at e1
      exact ⟨_, e1, ρ2, rfl, s2, x1.trans x2, hvb _ b1⟩
    rcases hae with h | h <;> rw [h] <;> exact this
  cases ae with
  | normal => exact fin (.inl rfl) hk1
  | ret => exact fin (.inr rfl) hk1
  | exit i => exact absurd (show (1 : Nat) = 0 from hk1) (by simp)
end Go.Ev
end
/-
  Words in symbols: what masks, shifts and joins of words come to.
-/
set_option linter.unusedSimpArgs false
set_option linter.unusedVariables false
noncomputable section
namespace Go.Ev
open Go
theorem arS_and (x y : Nat) (hx : x < 18446744073709551616) (hy : y < 18446744073709551616) : arS .and .u64 (x : Int) (y : Int) = ((Nat.land x y : Nat) : Int) := by
  have h1 : Nat.blt x (topOf .u64) = true := by simp [topOf]; omega
  have h2 : Nat.blt y (topOf .u64) = true := by simp [topOf]; omega
  show bitF .u64 Nat.land (fun a b => a &&& b) (.ofNat x) (.ofNat y) = _
  show bc (Nat.blt x (topOf .u64)) (bc (Nat.blt y (topOf .u64)) (Int.ofNat (Nat.land x y)) _) _ = _
  rw [h1, h2]; rfl
theorem arS_or (x y : Nat) (hx : x < 18446744073709551616) (hy : y < 18446744073709551616) : arS .or .u64 (x : Int) (y : Int) = ((Nat.lor x y : Nat) : Int) := by
  have h1 : Nat.blt x (topOf .u64) = true := by simp [topOf]; omega
  have h2 : Nat.blt y (topOf .u64) = true := by simp [topOf]; omega
  show bitF .u64 Nat.lor (fun a b => a ||| b) (.ofNat x) (.ofNat y) = _
  show bc (Nat.blt x (topOf .u64)) (bc (Nat.blt y (topOf .u64)) (Int.ofNat (Nat.lor x y)) _) _ = _
  rw [h1, h2]; rfl
theorem and_mask {x m : Int} (k : Nat) (hm : m = 2 ^ k - 1) (hk : k < 64) (h0 : 0 ≤ x) (h1 : x < 18446744073709551616) : arS .and .u64 x m = x % 2 ^ k := by
  obtain ⟨n, rfl⟩ := Int.eq_ofNat_of_zero_le h0
  have hp : 0 < 2 ^ k := Nat.two_pow_pos k
  have hlt : (2 : Nat) ^ k < 18446744073709551616 := by
    have : (2 : Nat) ^ k < 2 ^ 64 := Nat.pow_lt_pow_right (by omega) hk
    simpa using this
  have e : m = ((2 ^ k - 1 : Nat) : Int) := by
    rw [hm, Int.natCast_sub (by omega)]; simp
  rw [e, arS_and n _ (by omega) (by omega)]
  have : Nat.land n (2 ^ k - 1) = n % 2 ^ k := Nat.and_two_pow_sub_one_eq_mod n k
  rw [this]
  simp
theorem shr_val {x : Int} (n : Nat) (hn : n ≤ 64) (h0 : 0 ≤ x) : arS .shr .u64 x (n : Int) = x / 2 ^ n := by
  show (shI .shr .u64 x n).getD 0 = _
  have : min ((n : Int)).toNat (IntKind.bits .u64) = n := by
    show min n 64 = n
    omega
  simp only [shI, this, Option.getD_some]
  rw [Int.fdiv_eq_ediv_of_nonneg _ (by have : (0 : Int) < 2 ^ n := Int.pow_pos (by omega); omega)]
theorem shl_val {x : Int} (n : Nat) (hn : n ≤ 64) (h0 : 0 ≤ x) (h1 : x * 2 ^ n < 18446744073709551616) : arS .shl .u64 x (n : Int) = x * 2 ^ n := by
  show (shI .shl .u64 x n).getD 0 = _
  have : min ((n : Int)).toNat (IntKind.bits .u64) = n := by
    show min n 64 = n
    omega
  simp only [shI, this, Option.getD_some, wrapF_eq]
  have : 0 ≤ x * 2 ^ n := Int.mul_nonneg h0 (by have : (0 : Int) < 2 ^ n := Int.pow_pos (by omega); omega)
  rw [IntKind.wrap_u64]
  exact Int.emod_eq_of_lt this h1
theorem or_add {x y : Int} (k : Nat) (m : Int) (hx : x = m * 2 ^ k) (hm : 0 ≤ m) (h0 : 0 ≤ y) (h1 : y < 2 ^ k) (hb : x < 18446744073709551616) (hk : k ≤ 64) : arS .or .u64 x y = x + y := by
  obtain ⟨a, rfl⟩ := Int.eq_ofNat_of_zero_le hm
  obtain ⟨b, rfl⟩ := Int.eq_ofNat_of_zero_le h0
  have hxn : x = ((a * 2 ^ k : Nat) : Int) := by rw [hx]; simp
  have hbk : b < 2 ^ k := by
    have : ((2 ^ k : Nat) : Int) = 2 ^ k := by simp
    omega
  have hle : (2 : Nat) ^ k ≤ 18446744073709551616 := by
    have : (2 : Nat) ^ k ≤ 2 ^ 64 := Nat.pow_le_pow_right (by omega) hk
    simpa using this
  rw [hxn, arS_or _ _ (by omega) (by omega)]
  have : Nat.lor (a * 2 ^ k) b = a * 2 ^ k + b := by
    have := Nat.shiftLeft_add_eq_or_of_lt hbk a
    rw [Nat.shiftLeft_eq] at this
    exact this.symm
  rw [this]
  simp
end Go.Ev
end
