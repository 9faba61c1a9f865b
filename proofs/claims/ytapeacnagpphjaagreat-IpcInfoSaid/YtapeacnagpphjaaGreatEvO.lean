/-
  Code.
-/
import Derived.Test.YtapeacnagpphjaaGreatEvN
import Derived.OrdersHeld
import Derived.LoopN
import Derived.Scope
set_option linter.unusedSimpArgs false
set_option linter.unusedVariables false
noncomputable section
namespace Go.Ev
open Go
variable {E : Env} {P : Program} {N : Nat}
def AE.exit' : AE → Exit
  | .normal => .normal
  | .ret => .ret
  | .exit n => .exit n
/-- the order of a region with operations that make or write things -/
def heldGo (ops : Array Oper) : List (Bool × Nat) → Array Bool → Bool
  | [], listed => (Region.ready .any ops listed).isEmpty
  | (true, i) :: r, listed => decide (i < ops.size) && Region.free .any ops listed i && (Region.ready .any ops listed).contains i && heldGo ops r (listed.setIfInBounds i true)
  | (false, i) :: r, listed => decide (i < ops.size) && decide (Region.ready .any ops listed = [i]) && heldGo ops r (listed.setIfInBounds i true)
def heldB (ops : Array Oper) (ord : List (Bool × Nat)) : Bool := Region.noSelect ops && decide (ord.length = ops.size) && heldGo ops ord (Array.replicate ops.size false)
def tailOk (ops : Array Oper) (m : Nat) (tl : List Nat) : Bool :=
  EvQ.lexTailP .any ops m tl || (decide (ops.size ≤ m) && tl.isEmpty && Region.lexB .any ops) || (tl.isEmpty && EvQ.lexTwo .any ops m)
def mixG (ops : Array Oper) (n : Nat) (ord : List (Bool × Nat)) (listed : Array Bool) : Bool := (Region.ready .any ops listed).all (fun j => decide (n ≤ j)) && heldGo ops ord listed
def mixB (ops : Array Oper) (n : Nat) (ord : List (Bool × Nat)) : Bool :=
  Region.noSelect ops && decide (n < ops.size) && Region.sinkB .any ops n && EvQ.tailB .any ops n && decide (n + ord.length = ops.size) && EvQ.lexHeadF .any ops (mixG ops n ord) n 0 (Array.replicate ops.size false)
/-- the regions that draw their order are as dr says -/
def drawB (dr : Nat → Option Dr) : Code → Bool
  | .seq a b => drawB dr a && drawB dr b
  | .cond _ a b => drawB dr a && drawB dr b
  | .block _ a => drawB dr a
  | .loop a => drawB dr a
  | .scope a => drawB dr a
  | .region id ops true => match dr id with
    | some (.tail m tl) => tailOk ops m tl
    | some (.held bs ord) => heldB ops ord
    | some (.mix n bs ord) => mixB ops n ord
    | none => true
  | _ => true
/-- what is said of a piece of code -/
def Runs (E : Env) (P : Program) (N : Nat) (c : Code) (fr : Fr) (h : H) (k : K2) : Prop :=
  ∃ ae fr' h' fa', k ae fr' h' fa' = 0 ∧ FaOk E fa' ∧ ∀ ρ w a QQ, Sat E ρ h w → FrOk E ρ h.n.toNat fr (a : Act).tmps → N ≤ a.tmps.size → a.defers = [] → (∀ a' w', At E N ρ h w fr' h' a' w' → QQ (AE.exit' ae) a' w') → c.wp P QQ a w
theorem sat_drew {ρ : Rho} {h : H} {w : World} (s : Sat E ρ h w) : Sat E ρ h w.drew := ⟨s.obj, s.inj, s.bd⟩
theorem ext_drew {ρ : Rho} {h : H} {w : World} (s : Sat E ρ h w) : Ext ρ h w ρ h w.drew :=
  ⟨Nat.le_refl _, rfl, fun _ _ => rfl, fun p o h1 h2 => by have := (s.bd p o h2).1; omega, rfl, rfl, rfl, Nat.le_refl _, fun _ _ _ => rfl, fun _ _ _ => rfl, fun p o _ h1 h2 => ⟨o, h1, h2⟩⟩
theorem pickA_eq (ops : Array Oper) (tl : List Nat) : pickA ops.toList tl = EvQ.pick ops tl := by
  induction tl with
  | nil => rfl
  | cons i r ih =>
    simp only [pickA, nth_eq, EvQ.pick, List.filterMap_cons]
    simp only [Array.getElem?_toList]
    cases ops[i]? with
    | none => simpa [EvQ.pick] using ih
    | some o => simpa [EvQ.pick] using ih
/-- what is not dead in hS is the same in h -/
def Keep (hS h : H) : Prop := ∀ p o, hS.t.get p = some o → o.live = true → h.t.get p = some o
theorem sat_keep {ρ0 ρ : Rho} {hS h : H} {w0 w : World} (s0 : Sat E ρ0 hS w0) (s : Sat E ρ h w) (hk : Keep hS h) (ha : ∀ p : Ev.P, p.toNat < hS.n.toNat → ρ p = ρ0 p) : Sat E ρ0 hS w := by
  refine ⟨fun p o hp => ?_, fun p q o o' hp hq l1 l2 he => ?_, s0.bd⟩
  · cases hl : o.live with
    | false => cases o <;> simp [O.live] at hl; trivial
    | true =>
      have h1 := s.obj p o (hk p o hp hl)
      rw [ha p (s0.bd p o hp).1] at h1
      exact O.Is_agree E (fun i hi => (ha i hi).symm) (s0.bd p o hp).2 h1
  · refine s.inj p q o o' (hk p o hp l1) (hk q o' hq l2) l1 l2 ?_
    rw [ha p (s0.bd p o hp).1, ha q (s0.bd q o' hq).1]; exact he
theorem dead_run {fr : Fr} {e : Nat} (he : e ≠ 0) : ∀ (bs : List Nat) (h : H) (k : H → Nat), deadT fr e (bs.map keyOf) h k = 0 → ∃ hS, k hS = 0 ∧ hS.n = h.n ∧ Keep hS h ∧
    ∀ (E : Env) ρ w tmps, FrOk E ρ h.n.toNat fr tmps → Sat E ρ h w → Sat E ρ hS w
  | [], h, k, hk => ⟨h, hk, rfl, fun p o hp _ => hp, fun E ρ w tmps _ hs => hs⟩
  | b :: r, h, k, hk => by
    have hk : vPtr (fr.get (keyOf b)) (fun id _ => hset h id .dead (fun h => deadT fr e (r.map keyOf) h k)) e = 0 := hk
    obtain ⟨id, off, hp, hk⟩ := vPtr_ok hk he
    rw [hset_eq] at hk
    obtain ⟨hS, h1, h2, h3, h4⟩ := dead_run he r _ k hk
    refine ⟨hS, h1, h2, fun p o ho hl => ?_, fun E ρ w tmps hf hs => h4 E ρ w tmps hf ?_⟩
    · have h5 := h3 p o ho hl
      simp only [H.put, get_set] at h5
      split at h5
      · simp at h5; subst h5; simp [O.live] at hl
      · exact h5
    · have hid := (hf b _ hp).2
      have hg : ∀ q o', (h.put id .dead).t.get q = some o' → (q = id ∧ o' = .dead) ∨ h.t.get q = some o' := by
        intro q o' hq
        simp only [H.put, get_set] at hq
        split at hq
        · rename_i e; simp at hq; exact .inl ⟨Ev.P.toNat_inj e, hq.symm⟩
        · exact .inr hq
      refine ⟨fun q o' hq => ?_, fun p q o o' hp hq l1 l2 he => ?_, fun q o' hq => ?_⟩
      · rcases hg q o' hq with ⟨rfl, rfl⟩ | hq
        · trivial
        · exact hs.obj q o' hq
      · rcases hg p o hp with ⟨rfl, rfl⟩ | hp
        · simp [O.live] at l1
        · rcases hg q o' hq with ⟨rfl, rfl⟩ | hq
          · simp [O.live] at l2
          · exact hs.inj p q o o' hp hq l1 l2 he
      · rcases hg q o' hq with ⟨rfl, rfl⟩ | hq
        · exact ⟨hid, trivial⟩
        · exact hs.bd q o' hq
theorem isDead_ok {hS : H} {id : Ev.P} (h : isDead hS id = true) : hS.n.toNat ≤ id.toNat ∨ hS.t.get id = some .dead := by
  unfold isDead at h
  rw [hc_eq] at h
  cases hp : pLe hS.n id with
  | true => exact .inl (by simpa [pLe] using hp)
  | false =>
    rw [hp] at h
    have h : (match hS.t.get id with | some .dead => true | _ => false) = true := h
    split at h
    · rename_i h1; exact .inr h1
    · simp at h
/-- an operation that makes a thing, or writes one that is not looked at -/
theorem makes_strong {Y : Ty} (hY : TyOk P Y) {o : Oper} {i : IOp} (hc : cOp Y o.op = some i) {fr : Fr} {h hS : H} (hm : makesO i fr hS = true) {k : KV} {e : Nat} (hr : evI i fr h k e = 0) (he : e ≠ 0) :
    ∃ v h', k v h' = 0 ∧ (∀ (E : Env) (ρ : Rho) (a : Act) (w : World), FrOk E ρ h.n.toNat fr a.tmps → Sat E ρ h w → OpPost E P o a ρ h w v h') ∧
      ((∀ p o, hS.t.get p = some o → p.toNat < hS.n.toNat) → hS.n.toNat ≤ h.n.toNat → Keep hS h → Keep hS h') := by
  rcases evI_par i fr h with h1 | ⟨v, h', h1⟩
  · exact absurd ((h1 k e).symm.trans hr) he
  · let k' : KV := fun v2 h2 => @ite _ (v2 = v ∧ h2 = h') (Classical.propDecidable _) 0 1
    have hk' : evI i fr h k' 1 = 0 := (h1 _ _).trans (by simp [k'])
    have hkd : ∀ v2 h2, k' v2 h2 = 0 → h2 = h' := by
      intro v2 h2 hk
      by_cases hc : v2 = v ∧ h2 = h'
      · exact hc.2
      · simp only [k'] at hk; rw [if_neg hc] at hk; simp at hk
    refine ⟨v, h', by rw [← h1 k e]; exact hr, fun E ρ a w hf hs => ?_, fun hb hn hke => ?_⟩
    · obtain ⟨v2, h2, hp, hk⟩ := evI_run hY hc hk' (by simp) hf hs
      by_cases hc : v2 = v ∧ h2 = h'
      · rw [hc.1, hc.2] at hp; exact hp
      · simp only [k'] at hk; rw [if_neg hc] at hk; simp at hk
    · have add : ∀ oo, h.add oo = h' → Keep hS h' := by
        rintro oo rfl p o hp hl
        have h2 := hke p o hp hl
        have h3 := hb p o hp
        simp only [H.add, get_set]
        rw [if_neg (by omega)]; exact h2
      have newk : ∀ t l (vv : Ev.P → V), newR h t l vv k' 1 = 0 → Keep hS h' := by
        intro t l vv hr
        obtain ⟨_, hr⟩ := bc_ok hr (by simp)
        rw [hnew_eq] at hr
        exact add _ (hkd _ _ hr)
      have put : ∀ id oo, isDead hS id = true → h.put id oo = h' → Keep hS h' := by
        rintro id oo hd rfl p o hp hl
        have h2 := hke p o hp hl
        simp only [H.put, get_set]
        rw [if_neg ?_]; exact h2
        intro e
        have e := Ev.P.toNat_inj e
        subst e
        rcases isDead_ok hd with h3 | h3
        · have := hb _ o hp; omega
        · rw [hp] at h3; cases h3; simp [O.live] at hl
      cases i <;> simp only [makesO] at hm <;> try (simp at hm; done)
      case new t l => exact newk t l _ hk'
      case box t x =>
        obtain ⟨v, hv, hr⟩ := oc_ok (show oc (od x fr) _ 1 = 0 from hk') (by simp)
        exact newk t _ _ hr
      case bsl t n z ps =>
        obtain ⟨l, hl, hr⟩ := oc_ok (show oc (fill fr z ps) _ 1 = 0 from hk') (by simp)
        exact newk t _ _ hr
      case st n a x =>
        have hk' : bc (Nat.beq n 1) (eSt1 a x) (eStN n a x) fr h k' 1 = 0 := hk'
        cases hb1 : Nat.beq n 1 with
        | true =>
          rw [hb1] at hk'
          have hr : eSt1 a x fr h k' 1 = 0 := hk'
          obtain ⟨id, off, hp, hr⟩ := vPtr_ok hr (by simp)
          obtain ⟨v, hv, hr⟩ := oc_ok hr (by simp)
          obtain ⟨hmm, hr⟩ := bc_ok hr (by simp)
          obtain ⟨oo, ho, hr⟩ := oc_ok hr (by simp)
          obtain ⟨hone, hr⟩ := bc_ok hr (by simp)
          obtain ⟨o', hp', hr⟩ := put1_ok hr (by simp)
          rw [hset_eq] at hr
          rw [hp] at hm
          exact put id o' hm (hkd _ _ hr)
        | false =>
          rw [hb1] at hk'
          have hr : eStN n a x fr h k' 1 = 0 := hk'
          obtain ⟨id, off, hp, hr⟩ := vPtr_ok hr (by simp)
          obtain ⟨v, hv, hr⟩ := oc_ok hr (by simp)
          obtain ⟨hmm, hr⟩ := bc_ok hr (by simp)
          obtain ⟨oo, ho, hr⟩ := oc_ok hr (by simp)
          obtain ⟨hlen, hr⟩ := bc_ok hr (by simp)
          obtain ⟨hone, hr⟩ := bc_ok hr (by simp)
          obtain ⟨o', hp', hr⟩ := putN_ok hr (by simp)
          rw [hset_eq] at hr
          rw [hp] at hm
          exact put id o' hm (hkd _ _ hr)
theorem cHeld_cons {Y : Ty} {all : List Oper} {q : Bool} {i : Nat} {r : List (Bool × Nat)} {l : List (Bool × OI)} (h : cHeld Y N all ((q, i) :: r) = some l) : ∃ o x l', nth all i = some o ∧ cOper Y N all o = some x ∧ cHeld Y N all r = some l' ∧ l = (q, x) :: l' := by
  simp only [cHeld] at h
  split at h
  · rename_i o r' ho hr
    split at h
    · rename_i x hx
      simp at h; subst h
      exact ⟨o, x, r', ho, hx, hr, rfl⟩
    · simp at h
  · simp at h
theorem guard_none {all : List Oper} {o : Oper} (h : cGuard all o.guard = some none) : o.guard = none := by
  cases hg : o.guard with
  | none => rfl
  | some jw =>
    obtain ⟨j, want⟩ := jw
    rw [hg] at h
    simp only [cGuard] at h
    split at h <;> simp at h
theorem hops_run' {Y : Ty} (hY : TyOk P Y) {g : Ctx} (hcall : CallOk E P g.call) {ops : Array Oper} (hsel : Region.noSelect ops = true) {hS : H} {k : K1} : ∀ (ord : List (Bool × Nat)) (l : List (Bool × OI)) (fr : Fr) (h : H) (fa : Fa),
    cHeld Y N ops.toList ord = some l → FaOk E fa → hopsT hS l g fr h fa k = 0 →
    ∃ fr' h' fa', k fr' h' fa' = 0 ∧ FaOk E fa' ∧ ∀ listed, heldGo ops ord listed = true → ∀ ρ0 ρ w a QQ, hS.n.toNat ≤ h.n.toNat → Keep hS h → Sat E ρ0 hS w → (∀ p : Ev.P, p.toNat < hS.n.toNat → ρ p = ρ0 p) → Sat E ρ h w → FrOk E ρ h.n.toNat fr (a : Act).tmps → N ≤ a.tmps.size → a.defers = [] →
      (∀ c a w, ¬ QQ (.panic c) a w) → (∀ a' w', At E N ρ h w fr' h' a' w' → QQ .normal a' w') → wpAnyH P .any ops QQ (Sat E ρ0 hS) ord.length listed a w
  | [], l, fr, h, fa, hl, hfa, hk => by
    simp [cHeld] at hl; subst hl
    exact ⟨fr, h, fa, hk, hfa, fun listed hB ρ0 ρ w a QQ hn hke hs0 ha hs hf hN hd hp hq => wpAnyH_done (by simpa [heldGo] using hB) (hq a w ⟨ρ, hf, hN, hd, hs, hs.refl E⟩) _⟩
  | (true, i) :: r, l, fr, h, fa, hl, hfa, hk => by
    obtain ⟨o, x, l2, ho, hx, hl2, rfl⟩ := cHeld_cons hl
    rw [nth_eq, Array.getElem?_toList] at ho
    have hk : OI.go qOp hNo x g fr hS fa (fun fr _ fa => hopsT hS l2 g fr h fa k) = 0 := hk
    obtain ⟨d, gg, hd, hg, hxx⟩ := cOper_ok hx
    rcases hxx with ⟨ii, hi, rfl⟩ | ⟨cl, f0, f, ll, hop, hcal, hf0, hll, rfl⟩
    rotate_left
    · exact absurd (show err g 63 = 0 from hk) (err_ne _ _)
    have hk : qOp d gg ii g fr hS fa (fun fr _ fa => hopsT hS l2 g fr h fa k) = 0 := hk
    rcases guard_ok hg hfa hk with ⟨fa1, hfa1, hk, hw⟩ | ⟨fa1, hfa1, hk, hw⟩
    · obtain ⟨hst, hk⟩ := bc_ok hk (err_ne _ _)
      obtain ⟨v, h', hk, hrun⟩ := still_strong hY hi hst hk (err_ne _ _)
      obtain ⟨fr1, hk, hput⟩ := putF'_ok hfa1 hd hk
      obtain ⟨fr2, h2, fa2, hk2, hfa2, hr2⟩ := hops_run' hY hcall hsel r l2 fr1 h fa1 hl2 hfa1 hk
      refine ⟨fr2, h2, fa2, hk2, hfa2, fun listed hB ρ0 ρ w a QQ hn hke hs0 ha hs hf hN hdf hp hq => ?_⟩
      have conv : ∀ w, Sat E ρ0 hS w → Sat E ρ hS w := fun w s => sat_keep (ρ0 := ρ) (h := hS) ⟨fun p o hp => O.Is_agree E (fun i hi => ha i hi) (s.bd p o hp).2 (by rw [ha p (s.bd p o hp).1]; exact s.obj p o hp),
        fun p q o o' hp hq l1 l2 he => s.inj p q o o' hp hq l1 l2 (by rw [← ha p (s.bd p o hp).1, ← ha q (s.bd q o' hq).1]; exact he), s.bd⟩ s (fun p o hp _ => hp) (fun p hp => (ha p hp).symm)
      simp only [heldGo, Bool.and_eq_true, decide_eq_true_eq] at hB
      obtain ⟨⟨⟨hlt, hfree⟩, hready⟩, hB⟩ := hB
      obtain ⟨g1, g2, g3⟩ := hput ρ _ a hf hN (hrun E ρ _ a w hn hf (conv w hs0)).2
      refine wpAnyH_take (i := i) ho hsel hfree hready (fun c a w hh => absurd hh (hp c _ w)) (.inl ⟨hw ρ _ a hf, fun w' hw' => (hrun E ρ _ a w' hn hf (conv w' hw')).1⟩) hs0 ?_
      exact hr2 _ hB ρ0 ρ w _ QQ hn hke hs0 ha hs g1 g2 (g3.trans hdf) hp hq
    · obtain ⟨fr1, hk, hput⟩ := putF_ok hd hk
      obtain ⟨fr2, h2, fa2, hk2, hfa2, hr2⟩ := hops_run' hY hcall hsel r l2 fr1 h fa1 hl2 hfa1 hk
      refine ⟨fr2, h2, fa2, hk2, hfa2, fun listed hB ρ0 ρ w a QQ hn hke hs0 ha hs hf hN hdf hp hq => ?_⟩
      simp only [heldGo, Bool.and_eq_true, decide_eq_true_eq] at hB
      obtain ⟨⟨⟨hlt, hfree⟩, hready⟩, hB⟩ := hB
      obtain ⟨g1, g2, g3⟩ := hput E ρ h.n.toNat a hf hN (by trivial)
      refine wpAnyH_take (i := i) ho hsel hfree hready (fun c a w hh => absurd hh (hp c _ w)) (.inr ⟨hw ρ _ a hf, rfl⟩) hs0 ?_
      exact hr2 _ hB ρ0 ρ w _ QQ hn hke hs0 ha hs g1 g2 (g3.trans hdf) hp hq
  | (false, i) :: r, l, fr, h, fa, hl, hfa, hk => by
    obtain ⟨o, x, l2, ho, hx, hl2, rfl⟩ := cHeld_cons hl
    rw [nth_eq, Array.getElem?_toList] at ho
    have hk : OI.go (hOp hS) (hCall hS) x g fr h fa (fun fr h fa => hopsT hS l2 g fr h fa k) = 0 := hk
    obtain ⟨d, gg, hd, hg, hxx⟩ := cOper_ok hx
    have one : ∀ fr1 h1 fa1, FaOk E fa1 → o.guard = none → hopsT hS l2 g fr1 h1 fa1 k = 0 →
        (∀ ρ w a QQ, (∀ p o, hS.t.get p = some o → p.toNat < hS.n.toNat) → hS.n.toNat ≤ h.n.toNat → Keep hS h → Sat E ρ h w → FrOk E ρ h.n.toNat fr (a : Act).tmps → N ≤ a.tmps.size → a.defers = [] → o.wp P a w (fun a1 w1 => At E N ρ h w fr1 h1 a1 w1 ∧ Keep hS h1) QQ) →
        ∃ fr' h' fa', k fr' h' fa' = 0 ∧ FaOk E fa' ∧ ∀ listed, heldGo ops ((false, i) :: r) listed = true → ∀ ρ0 ρ w a QQ, hS.n.toNat ≤ h.n.toNat → Keep hS h → Sat E ρ0 hS w → (∀ p : Ev.P, p.toNat < hS.n.toNat → ρ p = ρ0 p) → Sat E ρ h w → FrOk E ρ h.n.toNat fr (a : Act).tmps → N ≤ a.tmps.size → a.defers = [] →
          (∀ c a w, ¬ QQ (.panic c) a w) → (∀ a' w', At E N ρ h w fr' h' a' w' → QQ .normal a' w') → wpAnyH P .any ops QQ (Sat E ρ0 hS) ((false, i) :: r).length listed a w := by
      intro fr1 h1 fa1 hfa1 hgd hk1 hstep
      obtain ⟨fr2, h2, fa2, hk2, hfa2, hr2⟩ := hops_run' hY hcall hsel r l2 fr1 h1 fa1 hl2 hfa1 hk1
      refine ⟨fr2, h2, fa2, hk2, hfa2, fun listed hB ρ0 ρ w a QQ hn hke hs0 ha hs hf hN hdf hp hq => ?_⟩
      simp only [heldGo, Bool.and_eq_true, decide_eq_true_eq] at hB
      obtain ⟨⟨hlt, hready⟩, hB⟩ := hB
      refine wpAnyH_all hready (by simp) fun j hj => ?_
      have hj : j = i := by simpa using hj
      subst hj
      unfold wpOp
      simp only [ho]
      rw [if_pos (by simp [Region.wanted, hgd])]
      refine .inl (wp_mono' ?_ (hstep ρ w a QQ (fun p o hp => (hs0.bd p o hp).1) hn hke hs hf hN hdf))
      rintro a1 w1 ⟨⟨ρ1, f1, n1, d1, s1, x1⟩, hke1⟩
      have ha1 : ∀ p : Ev.P, p.toNat < hS.n.toNat → ρ1 p = ρ0 p := fun p hp => by rw [x1.agree p (by omega), ha p hp]
      have hs1 : Sat E ρ0 hS w1 := sat_keep hs0 s1 hke1 ha1
      exact ⟨hs1, hr2 _ hB ρ0 ρ1 w1 a1 QQ (Nat.le_trans hn x1.len) hke1 hs1 ha1 s1 f1 n1 d1 hp (fun a' w' hA => hq a' w' (hA.trans x1))⟩
    rcases hxx with ⟨ii, hi, rfl⟩ | ⟨cl, f0, f, ll, hop, hcal, hf0, hll, rfl⟩
    · have hk : oc gg (fun _ => err g 60) (bc (makesO ii fr hS) (evI ii fr h (fun v h => putF' d fa v fr (fun fr => hopsT hS l2 g fr h fa k)) (err g (opCode ii))) (err g 61)) = 0 := hk
      cases gg with
      | some gg => exact absurd (show err g 60 = 0 from hk) (err_ne _ _)
      | none =>
        obtain ⟨hmk, hk⟩ := bc_ok (show bc (makesO ii fr hS) _ _ = 0 from hk) (err_ne _ _)
        obtain ⟨v, h1, hk, hrun, hkeep⟩ := makes_strong hY hi hmk hk (err_ne _ _)
        obtain ⟨fr1, hk, hput⟩ := putF'_ok hfa hd hk
        refine one fr1 h1 fa hfa (guard_none hg) hk fun ρ w a QQ hbd hn hke hs hf hN hdf => ?_
        obtain ⟨ρ', w', nx, hr, hnx, hs', hx', hb⟩ := hrun E ρ a w hf hs
        obtain ⟨g1, g2, g3⟩ := hput ρ' _ a (hf.mono hx'.len hx'.agree) hN hb
        unfold Oper.wp
        rw [hr]
        have hgo : At E N ρ h w fr1 h1 (a.put o.dst (v.γ E ρ')) w' ∧ Keep hS h1 := ⟨⟨ρ', g1, g2, g3.trans hdf, hs', hx'⟩, hkeep hbd hn hke⟩
        rcases hnx with rfl | ⟨rfl, rfl⟩
        · exact hgo
        · exact hgo
    · have hk : oc gg (fun _ => err g 62) (hc h (fun n lo t => hc hS (fun m _ _ => bc (pLe lo m) (callD f ll g fr ⟨n, m, t⟩ fa (fun v h' fa => hc h' (fun n' _ t' => putF d v fr (fun fr => hopsT hS l2 g fr ⟨n', lo, t'⟩ fa k)))) (err g 65)))) = 0 := hk
      cases gg with
      | some gg => exact absurd (show err g 62 = 0 from hk) (err_ne _ _)
      | none =>
        have hk : hc h (fun n lo t => hc hS (fun m _ _ => bc (pLe lo m) (callD f ll g fr ⟨n, m, t⟩ fa (fun v h' fa => hc h' (fun n' _ t' => putF d v fr (fun fr => hopsT hS l2 g fr ⟨n', lo, t'⟩ fa k)))) (err g 65))) = 0 := hk
        rw [hc_eq, hc_eq] at hk
        obtain ⟨hlo, hk⟩ := bc_ok hk (err_ne _ _)
        have hlo : h.lo.toNat ≤ hS.n.toNat := by simpa [pLe] using hlo
        obtain ⟨F, vl, v, h1, fa1, hk, hfa1, hr, hdo⟩ := callD_ok hop hcal hf0 hll hcall hfa hk
        rw [hc_eq] at hk
        obtain ⟨fr1, hk, hput⟩ := putF_ok hd hk
        refine one fr1 ⟨h1.n, h.lo, h1.t⟩ fa1 hfa1 (guard_none hg) hk fun ρ w a QQ hbd hn hke hs hf hN hdf => ?_
        obtain ⟨hvb, hex⟩ := hr ρ _ a hf
        unfold Oper.wp
        rw [hex, Oper.upon_enter]
        refine (hdo ρ w hvb ⟨hs.obj, hs.inj, hs.bd⟩).mono ?_
        rintro e w' ⟨ρ', rfl, hs', hx', hb⟩
        have hx2 : Ext ρ h w ρ' ⟨h1.n, h.lo, h1.t⟩ w' := by
          refine ⟨hx'.len, rfl, hx'.agree, fun p o hp hg hl => ?_, hx'.os, hx'.tape, hx'.output, hx'.size, fun b hb hno => hx'.keep b hb fun p o hp hl hlo2 => hno p o hp hl (Nat.le_trans hlo hlo2), fun p hp hq => hx'.old p (Nat.lt_of_lt_of_le hp hlo) hq, hx'.liv⟩
          rcases hx'.new p o hp hg hl with h3 | ⟨q, o', h3, h4, h5, h6⟩
          · exact .inl h3
          · exact .inr ⟨q, o', h3, h4, Nat.le_trans hlo h5, h6⟩
        obtain ⟨g1, g2, g3⟩ := hput E ρ' _ a (hf.mono hx2.len hx2.agree) hN hb
        refine ⟨⟨ρ', g1, g2, g3.trans hdf, ⟨hs'.obj, hs'.inj, hs'.bd⟩, hx2⟩, fun p o hp hl => ?_⟩
        have hpS := hbd p o hp
        have := hx'.old p hpS (show p.toNat < h.n.toNat by omega)
        show h1.t.get p = some o
        rw [this]; exact hke p o hp hl
theorem held_run {Y : Ty} (hY : TyOk P Y) (hm : P.follows .mixedOrders = true) {g : Ctx} (hcall : CallOk E P g.call) {id : Nat} {ops : Array Oper} {bs : List Nat} {ord : List (Bool × Nat)} (hB : heldB ops ord = true)
    {l : List (Bool × OI)} (hl : cHeld Y N ops.toList ord = some l) {fr : Fr} {h : H} {fa : Fa} {k : K2} (hfa : FaOk E fa) (hk : cHops (bs.map keyOf) l g fr h fa k = 0) : Runs E P N (.region id ops true) fr h k := by
  simp only [heldB, Bool.and_eq_true, decide_eq_true_eq] at hB
  obtain ⟨⟨hsel, hlen⟩, hgo⟩ := hB
  obtain ⟨hS, hk, hSn, hke, hSat⟩ := dead_run (err_ne _ _) bs h _ hk
  obtain ⟨fr1, h1, fa1, hk1, hfa1, hr⟩ := hops_run' hY hcall hsel ord l fr h fa hl hfa hk
  refine ⟨.normal, fr1, h1, fa1, hk1, hfa1, fun ρ w a QQ hs hf hN hd hQ => ?_⟩
  have hs1 : Sat E ρ h { w with drawn := w.drawn + 1 } := ⟨hs.obj, hs.inj, hs.bd⟩
  have hx1 : Ext ρ h w ρ h { w with drawn := w.drawn + 1 } := ext_drew hs
  refine Go.wp_mono (Q := fun e a' w' => e = .normal ∧ At E N ρ h w fr1 h1 a' w') (wp_region_held (S := Sat E ρ hS) hm ?_) (fun e a' w' ⟨he, hA⟩ => by rw [he]; exact hQ a' w' hA)
  have key := hr _ hgo ρ ρ _ a (fun e a' w' => e = .normal ∧ At E N ρ h w fr1 h1 a' w') (by rw [hSn]; exact Nat.le_refl _) hke (hSat E ρ _ _ hf hs1) (fun _ _ => rfl) hs1 hf hN hd (fun c a w hh => (by cases hh.1)) (fun a' w' hA => ⟨rfl, hA.trans hx1⟩)
  rw [hlen] at key
  exact key
theorem wp_region_mix {id : Nat} {ops : Array Oper} {Q : Exit → Act → World → Prop} {C : World → Prop} {a : Act} {w : World} (n : Nat) (ord : List (Bool × Nat)) (hm : P.follows .mixedOrders = true) (hB : mixB ops n ord = true) (hC : C { w with drawn := w.drawn + 1 })
    (h : wpQuiet P ops C (fun a' => ∀ w' listed, C w' → heldGo ops ord listed = true → wpAny P .any ops Q ord.length listed a' w') (ops.toList.take n) a) : (Code.region id ops true).wp P Q a w := by
  simp only [mixB, Bool.and_eq_true, decide_eq_true_eq] at hB
  obtain ⟨⟨⟨⟨⟨hsel, hn⟩, hs⟩, hc⟩, hsz⟩, hlex⟩ := hB
  have hlen : (ops.toList.take n).length = n := by simp; omega
  have inv : HeadInv .any ops n (Array.replicate ops.size false) :=
    ⟨by simp, fun j oj _ hl => by rw [getD_replicate_false] at hl; simp at hl, fun t _ ht => getD_in (by simpa using ht) (getD_replicate_false _ _)⟩
  have h1 := EvQ.headQ_lexF (P := P) (C := C) (md := .any) (n := n) (F := mixG ops n ord)
    (fun listed hF j hj => by
      simp only [mixG, Bool.and_eq_true, List.all_eq_true, decide_eq_true_eq] at hF
      exact hF.1 j hj)
    hsel (fun listed inv i hi hun t ht => EvQ.tailB_waits hs hc hn inv _ i rfl hi hun t ht) (ops.toList.take n) 0 _ a (fun j hj => by
    have hj : j < n := by omega
    simp [List.getElem?_take, hj]) (by simpa using hlen) inv (by rw [hlen]; exact hlex) h
  rw [hlen] at h1
  refine wp_region_any hm ?_
  rw [show wpAny P .any ops Q ops.size = wpAny P .any ops Q (n + ord.length) from by rw [hsz]]
  refine EvQ.headQ_any (C := C) (fun listed a' w' hw' hL => ?_) n _ a _ hC h1
  obtain ⟨⟨hF, _⟩, hK⟩ := hL
  simp only [mixG, Bool.and_eq_true] at hF
  exact hK w' listed hw' hF.2
theorem mix_run {Y : Ty} (hY : TyOk P Y) (hm : P.follows .mixedOrders = true) {g : Ctx} (hcall : CallOk E P g.call) {id : Nat} {ops : Array Oper} {n : Nat} {bs : List Nat} {ord : List (Bool × Nat)} (hB : mixB ops n ord = true)
    {hd : List OI} (hhd : cOpers Y N ops.toList (ops.toList.take n) = some hd) {l : List (Bool × OI)} (hl : cHeld Y N ops.toList ord = some l) {fr : Fr} {h : H} {fa : Fa} {k : K2} (hfa : FaOk E fa)
    (hk : qopsT hd g fr h fa (fun fr h fa => cHops (bs.map keyOf) l g fr h fa k) = 0) : Runs E P N (.region id ops true) fr h k := by
  obtain ⟨fr0, fa0, hk, hfa0, hq⟩ := qopsT_run hY hcall _ _ fr fa hhd hfa hk
  obtain ⟨hS, hk, hSn, hke, hSat⟩ := dead_run (err_ne _ _) bs h _ hk
  have hsel : Region.noSelect ops = true := by
    simp only [mixB, Bool.and_eq_true] at hB; exact hB.1.1.1.1.1
  obtain ⟨fr1, h1, fa1, hk1, hfa1, hr⟩ := hops_run' hY hcall hsel ord l fr0 h fa0 hl hfa0 hk
  refine ⟨.normal, fr1, h1, fa1, hk1, hfa1, fun ρ w a QQ hs hf hN hd hQ => ?_⟩
  have hs1 := sat_drew hs
  have hC1 : Cls E ρ h w.drew { w with drawn := w.drawn + 1 } := ⟨hs1, hs1.refl E⟩
  refine Go.wp_mono (Q := fun e a' w' => e = .normal ∧ At E N ρ h w fr1 h1 a' w') (wp_region_mix n ord hm hB hC1 ?_) (fun e a' w' ⟨he, hA⟩ => by rw [he]; exact hQ a' w' hA)
  refine hq ρ w.drew a _ hs1 hf hN hd fun a2 f2 n2 d2 w2 listed hw2 hgo => wpAny_of_held (S := Sat E ρ hS) _ _ _ _ ?_
  exact hr listed hgo ρ ρ w2 a2 (fun e a' w' => e = .normal ∧ At E N ρ h w fr1 h1 a' w') (by rw [hSn]; exact Nat.le_refl _) hke (hSat E ρ _ _ f2 hw2.1) (fun _ _ => rfl) hw2.1 f2 n2 d2 (fun c a w hh => (by cases hh.1)) (fun a' w' hA => ⟨rfl, hA.trans ((ext_drew hs).trans hw2.2)⟩)
theorem tail_run {Y : Ty} (hY : TyOk P Y) (hm : P.follows .mixedOrders = true) {g : Ctx} (hcall : CallOk E P g.call) {id : Nat} {ops : Array Oper} {m : Nat} {tl : List Nat} (hB : tailOk ops m tl = true)
    {hd t : List OI} (h1 : cOpers Y N ops.toList (ops.toList.take m) = some hd) (h2 : cOpers Y N ops.toList (EvQ.pick ops tl) = some t) (hno : tl = [] → ops.size ≤ m)
    {fr : Fr} {h : H} {fa : Fa} {k : K2} (hfa : FaOk E fa) (hk : qopsT hd g fr h fa (fun fr h fa => opsT t g fr h fa (fun fr h fa => k .normal fr h fa)) = 0) : Runs E P N (.region id ops true) fr h k := by
  obtain ⟨fr1, fa1, hk1, hfa1, hq⟩ := qopsT_run hY hcall _ _ fr fa h1 hfa hk
  obtain ⟨fr2, h2', fa2, hk2, hfa2, ho⟩ := opsT_run hY hcall _ _ fr1 h fa1 h2 hfa1 hk1
  refine ⟨.normal, fr2, h2', fa2, hk2, hfa2, fun ρ w a QQ hs hf hN hd hQ => ?_⟩
  have hs1 := sat_drew hs
  have hC1 : Cls E ρ h w.drew { w with drawn := w.drawn + 1 } := ⟨hs1, hs1.refl E⟩
  have fin : ∀ a', FrOk E ρ h.n.toNat fr1 (a' : Act).tmps → N ≤ a'.tmps.size → a'.defers = [] → ∀ w', Cls E ρ h w.drew w' → wpList P ops QQ (EvQ.pick ops tl) a' w' := by
    intro a' hf' hN' hd' w' hw'
    refine ho ρ w' a' QQ hw'.1 hf' hN' hd' (fun a2 w2 hA => hQ a2 w2 (hA.trans ((ext_drew hs).trans hw'.2)))
  have hgo := hq ρ w.drew a (fun a' => ∀ w', Cls E ρ h w.drew w' → wpList P ops QQ (EvQ.pick ops tl) a' w') hs1 hf hN hd fin
  simp only [tailOk, Bool.or_eq_true, Bool.and_eq_true, decide_eq_true_eq, List.isEmpty_iff] at hB
  rcases hB with (hB | ⟨⟨hle, rfl⟩, hB⟩) | ⟨rfl, hB⟩
  · exact EvQ.wp_region_head m tl hm hB hC1 hgo
  · have hle' : ops.toList.length ≤ m := by simpa using hle
    rw [List.take_of_length_le hle'] at hgo
    refine wp_region_quiet hm hB hC1 ?_
    exact hgo
  · simp only [EvQ.lexTwo, Bool.and_eq_true, decide_eq_true_eq] at hB
    have hn : m < ops.size := hB.1.1.1.2
    have := hno rfl
    omega
theorem two_run {Y : Ty} (hY : TyOk P Y) (hm : P.follows .mixedOrders = true) {g : Ctx} (hcall : CallOk E P g.call) {id : Nat} {ops : Array Oper} {m : Nat} {o : Oper} (ho : ops[m]? = some o) (hB : tailOk ops m [] = true)
    {hd r : List OI} {i : OI} (h1 : cOpers Y N ops.toList (ops.toList.take m) = some hd) (h2 : cOper Y N ops.toList o = some i) (h3 : cOpers Y N ops.toList (ops.toList.drop (m + 1)) = some r)
    {fr : Fr} {h : H} {fa : Fa} {k : K2} (hfa : FaOk E fa) (hk : qopsT hd g fr h fa (fun fr h fa => opsT [i] g fr h fa (fun fr h fa => qopsT r g fr h fa (fun fr h fa => k .normal fr h fa))) = 0) : Runs E P N (.region id ops true) fr h k := by
  obtain ⟨fr1, fa1, hk1, hfa1, hq⟩ := qopsT_run hY hcall _ _ fr fa h1 hfa hk
  obtain ⟨fr2, h2', fa2, hk2, hfa2, hs2⟩ := step_run hY h2 hcall hfa1 hk1
  obtain ⟨fr3, fa3, hk3, hfa3, hq3⟩ := qopsT_run hY hcall _ _ fr2 fa2 h3 hfa2 hk2
  refine ⟨.normal, fr3, h2', fa3, hk3, hfa3, fun ρ w a QQ hs hf hN hd hQ => ?_⟩
  have hs1 := sat_drew hs
  have hC1 : Cls E ρ h w.drew { w with drawn := w.drawn + 1 } := ⟨hs1, hs1.refl E⟩
  have hm2 : m < ops.size := (Array.getElem?_eq_some_iff.1 ho).1
  have hB : EvQ.lexTwo .any ops m = true := by
    simp only [tailOk, Bool.or_eq_true, Bool.and_eq_true, decide_eq_true_eq, List.isEmpty_iff] at hB
    rcases hB with (hB | ⟨⟨hle, _⟩, _⟩) | ⟨_, hB⟩
    · simp only [EvQ.lexTailP, Bool.and_eq_true, decide_eq_true_eq, List.length_nil] at hB
      omega
    · omega
    · exact hB
  refine EvQ.wp_region_two (C := Cls E ρ h w.drew) m hm hB hC1 ?_
  refine hq ρ w.drew a _ hs1 hf hN hd fun a1 f1 n1 d1 w1 hw1 => ?_
  have after : ∀ a2 w2, At E N ρ h w1 fr2 h2' a2 w2 → ∃ C2 : World → Prop, C2 w2 ∧ wpQuiet P ops C2 (fun a3 => ∀ w3, C2 w3 → QQ .normal a3 w3) (ops.toList.drop (m + 1)) a2 := by
    rintro a2 w2 ⟨ρ2, f2, n2, d2, s2, x2⟩
    refine ⟨Cls E ρ2 h2' w2, ⟨s2, s2.refl E⟩, ?_⟩
    refine hq3 ρ2 w2 a2 _ s2 f2 n2 d2 fun a3 f3 n3 d3 w3 hw3 => ?_
    exact hQ a3 w3 ⟨ρ2, f3, n3, d3, hw3.1, ((ext_drew hs).trans hw1.2).trans (x2.trans hw3.2)⟩
  unfold wpOp
  simp only [ho]
  rcases hs2 ρ w1 a1 QQ hw1.1 f1 n1 d1 with ⟨hw, hwp⟩ | ⟨hw, hA⟩
  · rw [if_pos hw]
    exact .inl (wp_mono' after hwp)
  · rw [if_neg (by simp [hw])]
    exact after _ _ hA
theorem bad_ne {g : Ctx} {fr : Fr} {h : H} {fa : Fa} {k : K2} (hk : codeT .bad g fr h fa k = 0) : False := err_ne _ _ hk
theorem codeT_run {Y : Ty} (hY : TyOk P Y) (hm : P.follows .mixedOrders = true) {dr : Nat → Option Dr} {g : Ctx} (hcall : CallOk E P g.call) : ∀ (c : Code) (fr : Fr) (h : H) (fa : Fa) (k : K2), drawB dr c = true → FaOk E fa →
    codeT (cCode Y N dr c) g fr h fa k = 0 → Runs E P N c fr h k
  | .skip, fr, h, fa, k, hB, hfa, hk => ⟨.normal, fr, h, fa, hk, hfa, fun ρ w a QQ hs hf hN hd hQ => wp_skip (hQ _ _ ⟨ρ, hf, hN, hd, hs, hs.refl E⟩)⟩
  | .ret, fr, h, fa, k, hB, hfa, hk => ⟨.ret, fr, h, fa, hk, hfa, fun ρ w a QQ hs hf hN hd hQ => wp_ret (hQ _ _ ⟨ρ, hf, hN, hd, hs, hs.refl E⟩)⟩
  | .exit i, fr, h, fa, k, hB, hfa, hk => ⟨.exit i, fr, h, fa, hk, hfa, fun ρ w a QQ hs hf hN hd hQ => wp_exit (hQ _ _ ⟨ρ, hf, hN, hd, hs, hs.refl E⟩)⟩
  | .label i, fr, h, fa, k, hB, hfa, hk => ⟨.normal, fr, h, fa, hk, hfa, fun ρ w a QQ hs hf hN hd hQ => wp_label (hQ _ _ ⟨ρ, hf, hN, hd, hs, hs.refl E⟩)⟩
  | .seq x y, fr, h, fa, k, hB, hfa, hk => by
    simp only [drawB, Bool.and_eq_true] at hB
    have hk : codeT (cCode Y N dr x) g fr h fa (fun e fr h fa => aeGo e (codeT (cCode Y N dr y) g fr h fa k) (k .ret fr h fa) (fun i => k (.exit i) fr h fa)) = 0 := hk
    obtain ⟨ae, fr1, h1, fa1, hk1, hfa1, r1⟩ := codeT_run hY hm hcall x fr h fa _ hB.1 hfa hk
    cases ae with
    | normal =>
      obtain ⟨ae, fr2, h2, fa2, hk2, hfa2, r2⟩ := codeT_run hY hm hcall y fr1 h1 fa1 k hB.2 hfa1 hk1
      refine ⟨ae, fr2, h2, fa2, hk2, hfa2, fun ρ w a QQ hs hf hN hd hQ => wp_seq (r1 ρ w a _ hs hf hN hd ?_)⟩
      rintro a1 w1 ⟨ρ1, f1, n1, d1, s1, x1⟩
      exact r2 ρ1 w1 a1 QQ s1 f1 n1 d1 fun a' w' hA => hQ a' w' (hA.trans x1)
    | ret => exact ⟨.ret, fr1, h1, fa1, hk1, hfa1, fun ρ w a QQ hs hf hN hd hQ => wp_seq (r1 ρ w a _ hs hf hN hd hQ)⟩
    | exit i => exact ⟨.exit i, fr1, h1, fa1, hk1, hfa1, fun ρ w a QQ hs hf hN hd hQ => wp_seq (r1 ρ w a _ hs hf hN hd hQ)⟩
  | .cond o x y, fr, h, fa, k, hB, hfa, hk => by
    simp only [drawB, Bool.and_eq_true] at hB
    cases o with
    | tmp t =>
      have hk : way fa (fr.get (keyOf t)) (fun b fa => bc b (codeT (cCode Y N dr x) g fr h fa k) (codeT (cCode Y N dr y) g fr h fa k)) (err g 44) = 0 := hk
      obtain ⟨v, b, fa', hv, hb, hfa', hk⟩ := way_ok hk (err_ne _ _) hfa (fun _ => ⟨0, 0⟩)
      have hev : ∀ ρ n (a : Act), FrOk E ρ n fr a.tmps → a.eval (.tmp t) = .bool b := by
        intro ρ n a hf
        have h1 := (hf t v hv).1
        have h2 : v.γ E ρ = .bool b := by cases v <;> simp [V.γ] at hb ⊢ <;> exact hb
        simp [Act.eval, h1, h2]
      cases b with
      | true =>
        obtain ⟨ae, fr1, h1, fa1, hk1, hfa1, r1⟩ := codeT_run hY hm hcall x fr h fa' k hB.1 hfa' hk
        exact ⟨ae, fr1, h1, fa1, hk1, hfa1, fun ρ w a QQ hs hf hN hd hQ => wp_cond_true (hev ρ _ a hf) (r1 ρ w a QQ hs hf hN hd hQ)⟩
      | false =>
        obtain ⟨ae, fr1, h1, fa1, hk1, hfa1, r1⟩ := codeT_run hY hm hcall y fr h fa' k hB.2 hfa' hk
        exact ⟨ae, fr1, h1, fa1, hk1, hfa1, fun ρ w a QQ hs hf hN hd hQ => wp_cond_false (hev ρ _ a hf) (r1 ρ w a QQ hs hf hN hd hQ)⟩
    | _ => exact (bad_ne hk).elim
  | .block i x, fr, h, fa, k, hB, hfa, hk => by
    simp only [drawB] at hB
    have hk : codeT (cCode Y N dr x) g fr h fa (fun e fr h fa => aeGo e (k .normal fr h fa) (k .ret fr h fa) (fun j => bc (Nat.beq j i) (k .normal fr h fa) (k (.exit j) fr h fa))) = 0 := hk
    obtain ⟨ae, fr1, h1, fa1, hk1, hfa1, r1⟩ := codeT_run hY hm hcall x fr h fa _ hB hfa hk
    cases ae with
    | normal => exact ⟨.normal, fr1, h1, fa1, hk1, hfa1, fun ρ w a QQ hs hf hN hd hQ => wp_block (r1 ρ w a _ hs hf hN hd hQ)⟩
    | ret => exact ⟨.ret, fr1, h1, fa1, hk1, hfa1, fun ρ w a QQ hs hf hN hd hQ => wp_block (r1 ρ w a _ hs hf hN hd hQ)⟩
    | exit j =>
      have hk2 : bc (Nat.beq j i) (k .normal fr1 h1 fa1) (k (.exit j) fr1 h1 fa1) = 0 := hk1
      clear hk1
      cases hj : Nat.beq j i with
      | true =>
        rw [hj] at hk2
        have hj : j = i := by simpa using hj
        subst hj
        refine ⟨.normal, fr1, h1, fa1, hk2, hfa1, fun ρ w a QQ hs hf hN hd hQ => wp_block (r1 ρ w a _ hs hf hN hd fun a' w' hA => ?_)⟩
        show Exit.inBlock j _ (.exit j) a' w'
        simp only [Exit.inBlock, if_true]
        exact hQ a' w' hA
      | false =>
        rw [hj] at hk2
        have hj : ¬ j = i := by
          intro e; subst e; simp at hj
        refine ⟨.exit j, fr1, h1, fa1, hk2, hfa1, fun ρ w a QQ hs hf hN hd hQ => wp_block (r1 ρ w a _ hs hf hN hd fun a' w' hA => ?_)⟩
        show Exit.inBlock i _ (.exit j) a' w'
        simp only [Exit.inBlock, hj, if_false]
        exact hQ a' w' hA
  | .loop x, fr, h, fa, k, hB, hfa, hk => by
    simp only [drawB] at hB
    have key : ∀ n fr h fa, FaOk E fa → loopN (codeT (cCode Y N dr x)) n g fr h fa k = 0 → ∃ ae fr' h' fa', k ae fr' h' fa' = 0 ∧ FaOk E fa' ∧ ∀ ρ w a QQ, Sat E ρ h w → FrOk E ρ h.n.toNat fr (a : Act).tmps → N ≤ a.tmps.size → a.defers = [] →
        (∀ a' w', At E N ρ h w fr' h' a' w' → QQ (AE.exit' ae) a' w') → Code.rounds P x QQ n a w := by
      intro n
      induction n with
      | zero => intro fr h fa hfa hk; exact absurd hk (err_ne _ _)
      | succ n ih =>
        intro fr h fa hfa hk
        have hk : codeT (cCode Y N dr x) g fr h fa (fun e fr h fa => aeGo e (loopN (codeT (cCode Y N dr x)) n g fr h fa k) (k .ret fr h fa) (fun i => k (.exit i) fr h fa)) = 0 := hk
        obtain ⟨ae, fr1, h1, fa1, hk1, hfa1, r1⟩ := codeT_run hY hm hcall x fr h fa _ hB hfa hk
        cases ae with
        | normal =>
          obtain ⟨ae, fr2, h2, fa2, hk2, hfa2, r2⟩ := ih fr1 h1 fa1 hfa1 hk1
          refine ⟨ae, fr2, h2, fa2, hk2, hfa2, fun ρ w a QQ hs hf hN hd hQ => ?_⟩
          rw [rounds_succ]
          refine r1 ρ w a _ hs hf hN hd ?_
          rintro a1 w1 ⟨ρ1, f1, n1, d1, s1, x1⟩
          exact r2 ρ1 w1 a1 QQ s1 f1 n1 d1 fun a' w' hA => hQ a' w' (hA.trans x1)
        | ret => exact ⟨.ret, fr1, h1, fa1, hk1, hfa1, fun ρ w a QQ hs hf hN hd hQ => (by rw [rounds_succ]; exact r1 ρ w a _ hs hf hN hd hQ)⟩
        | exit i => exact ⟨.exit i, fr1, h1, fa1, hk1, hfa1, fun ρ w a QQ hs hf hN hd hQ => (by rw [rounds_succ]; exact r1 ρ w a _ hs hf hN hd hQ)⟩
    obtain ⟨ae, fr2, h2, fa2, hk2, hfa2, r2⟩ := key g.fuel fr h fa hfa hk
    exact ⟨ae, fr2, h2, fa2, hk2, hfa2, fun ρ w a QQ hs hf hN hd hQ => wp_loop_rounds _ (r2 ρ w a QQ hs hf hN hd hQ)⟩
  | .scope x, fr, h, fa, k, hB, hfa, hk => by
    simp only [drawB] at hB
    obtain ⟨ae, fr1, h1, fa1, hk1, hfa1, r1⟩ := codeT_run hY hm hcall x fr h fa k hB hfa hk
    exact ⟨ae, fr1, h1, fa1, hk1, hfa1, fun ρ w a QQ hs hf hN hd hQ => wp_scope_straight (r1 ρ w a _ hs hf hN hd (by cases ae <;> exact hQ))⟩
  | .region id ops false, fr, h, fa, k, hB, hfa, hk => by
    simp only [cCode] at hk
    split at hk
    · rename_i l hl
      obtain ⟨fr2, h2', fa2, hk2, hfa2, ho⟩ := opsT_run hY hcall _ _ fr h fa hl hfa (show opsT l g fr h fa (fun fr h fa => k .normal fr h fa) = 0 from hk)
      exact ⟨.normal, fr2, h2', fa2, hk2, hfa2, fun ρ w a QQ hs hf hN hd hQ => wp_region_list (ho ρ w a QQ hs hf hN hd hQ)⟩
    · exact (bad_ne hk).elim
  | .region id ops true, fr, h, fa, k, hB, hfa, hk => by
    simp only [drawB] at hB
    simp only [cCode] at hk
    split at hk
    · rename_i bs ord hdr
      rw [hdr] at hB
      split at hk
      · rename_i l hl
        exact held_run hY hm hcall hB hl hfa hk
      · exact (bad_ne hk).elim
    · rename_i n bs ord hdr
      rw [hdr] at hB
      split at hk
      · rename_i hd l hhd hl
        exact mix_run hY hm hcall hB hhd hl hfa hk
      · exact (bad_ne hk).elim
    · rename_i d tl hdr
      rw [hdr] at hB
      split at hk
      · rename_i hd hhd
        split at hk
        · rename_i o ho
          rw [nth_eq, Array.getElem?_toList] at ho
          split at hk
          · rename_i i r hi hr
            exact two_run hY hm hcall ho hB hhd hi hr hfa hk
          · exact (bad_ne hk).elim
        · rename_i hne
          split at hk
          · rename_i t ht
            rw [pickA_eq] at ht
            refine tail_run hY hm hcall hB hhd ht (fun e => ?_) hfa hk
            subst e
            rcases Nat.lt_or_ge d ops.size with h1 | h1
            · exact (hne ops[d] rfl (by rw [nth_eq]; simp [h1])).elim
            · exact h1
          · exact (bad_ne hk).elim
      · exact (bad_ne hk).elim
    · exact (bad_ne hk).elim
  | .rangeFunc f ps x y, fr, h, fa, k, hB, hfa, hk => (bad_ne hk).elim
  | .goto l, fr, h, fa, k, hB, hfa, hk => (bad_ne hk).elim
  | .refuse s, fr, h, fa, k, hB, hfa, hk => (bad_ne hk).elim
end Go.Ev
end
