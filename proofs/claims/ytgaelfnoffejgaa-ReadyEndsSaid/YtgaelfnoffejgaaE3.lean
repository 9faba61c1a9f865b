/-
 Code.
-/
import Derived.Test.YtgaelfnoffejgaaE2
import Derived.OrdersHeld
import Derived.LoopN
import Derived.Scope
import Derived.MapKept
import Derived.Laws.StructEq
import Derived.ChangeKeysEq
import Derived.WideKeyRuns
import Derived.Lib.BitFns
set_option linter.unusedSimpArgs false
set_option linter.unusedVariables false
noncomputable section
namespace Go.Ev
open Go
variable {E : Env} {P : Program} {N : Nat}
def AE.exit' : AE → Exit
 | .normal => .normal
 | .ret => .ret
 | .exit n => .exit n
def heldGo (ops : Array Oper) : List (Bool × Nat) → Array Bool → Bool
 | [], listed => (Region.ready .any ops listed).isEmpty
 | (true, i) :: r, listed => decide (i < ops.size) && Region.free .any ops listed i && (Region.ready .any ops listed).contains i && heldGo ops r (listed.setIfInBounds i true)
 | (false, i) :: r, listed => decide (i < ops.size) && decide (Region.ready .any ops listed = [i]) && heldGo ops r (listed.setIfInBounds i true)
def heldB (ops : Array Oper) (ord : List (Bool × Nat)) : Bool := Region.noSelect ops && decide (ord.length = ops.size) && heldGo ops ord (Array.replicate ops.size false)
def tailOk (ops : Array Oper) (m : Nat) (tl : List Nat) : Bool :=
 EvQ.lexTailP .any ops m tl || (decide (ops.size ≤ m) && tl.isEmpty && Region.lexB .any ops) || (tl.isEmpty && EvQ.lexTwo .any ops m)
def mixG (ops : Array Oper) (n : Nat) (ord : List (Bool × Nat)) (listed : Array Bool) : Bool := (Region.ready .any ops listed).all (fun j => decide (n ≤ j)) && heldGo ops ord listed
def mixB (ops : Array Oper) (n : Nat) (ord : List (Bool × Nat)) : Bool :=
 Region.noSelect ops && decide (n < ops.size) && Region.sinkB .any ops n && EvQ.tailB .any ops n && decide (n + ord.length = ops.size) && EvQ.lexHeadF .any ops (mixG ops n ord) n 0 (Array.replicate ops.size false)
def chainB (ops : Array Oper) : List Nat → Array Bool → Bool
 | [], listed => (Region.ready .any ops listed).isEmpty
 | i :: r, listed => decide (i < ops.size) && decide (Region.ready .any ops listed = [i]) && chainB ops r (listed.setIfInBounds i true)
def heldGo2 (ops : Array Oper) (D tl : List Nat) : List (Bool × Nat) → Array Bool → Bool
 | [], listed => EvQ.doneD D listed && chainB ops tl listed
 | (true, i) :: r, listed => D.contains i && decide (i < ops.size) && Region.free .any ops listed i && (Region.ready .any ops listed).contains i && heldGo2 ops D tl r (listed.setIfInBounds i true)
 | (false, i) :: r, listed => D.contains i && decide (i < ops.size) && decide (Region.ready .any ops listed = [i]) && heldGo2 ops D tl r (listed.setIfInBounds i true)
def hold2B (ops : Array Oper) (ord : List (Bool × Nat)) (tl : List Nat) : Bool :=
 Region.noSelect ops && decide (ord.length + tl.length = ops.size) && EvQ.restOk ops (ord.map (·.2)) && heldGo2 ops (ord.map (·.2)) tl ord (Array.replicate ops.size false)
def dstB (ops : Array Oper) (es : List Nat) (t : Nat) : Bool := (List.range ops.size).all (fun j => match ops[j]? with
 | some o => (match o.dst with
  | some u => !(Nat.beq u t) || es.contains j
  | none => true)
 | none => true)
def slB (ops : Array Oper) (dq i : Nat) (sl : List Nat) : Bool := sl.all (fun t => !(Nat.beq t dq) && dstB ops (EvQ.edgesOf ops i) t)
def chB (ops : Array Oper) : List (Nat × List Nat) → Bool
 | [] => true
 | [_] => true
 | a :: b :: r => (EvQ.edgesOf ops b.1).contains a.1 && chB ops (b :: r)
def drawB (dr : Nat → Option Dr) : Code → Bool
 | .seq a b => drawB dr a && drawB dr b
 | .cond _ a b => drawB dr a && drawB dr b
 | .block _ a => drawB dr a
 | .loop a => drawB dr a
 | .scope a => drawB dr a
 | .region id ops true => match dr id with
  | some (.tail m tl) => tailOk ops m tl
  | some (.held bs ord) => heldB ops ord
  | some (.mix n bs ord) => mixB ops n ord
  | some (.hold2 bs ord tl) => hold2B ops ord tl
  | some (.flo bs ord ch q tl) => false
  | some (.heldK ks ord) => false
  | some (.heldK2 ks ord tl) => false
  | some (.floK ks ord q tl) => false
  | some (.mapK _ ord qs cs q ins n0) => false
  | none => true
 | _ => true
def Runs (E : Env) (P : Program) (N : Nat) (c : Code) (fr : Fr) (h : H) (k : K2) : Prop :=
 ∃ ae fr' h' fa', k ae fr' h' fa' = 0 ∧ FaOk E fa' ∧ ∀ {DS : List Deferred} ρ w a QQ, Sat E ρ h w → FrOk E ρ h.n.toNat fr (a : Act).tmps → N ≤ a.tmps.size → a.defers = DS → (∀ a' w', At E N DS ρ h w fr' h' a' w' → QQ (AE.exit' ae) a' w') → c.wp P QQ a w
theorem sat_drew {ρ : Rho} {h : H} {w : World} (s : Sat E ρ h w) : Sat E ρ h w.drew := ⟨s.obj, s.inj, s.bd⟩
theorem ext_drew {ρ : Rho} {h : H} {w : World} (s : Sat E ρ h w) : Ext ρ h w ρ h w.drew :=
 ⟨Nat.le_refl _, rfl, fun _ _ => rfl, fun p o h1 h2 => by have := (s.bd p o h2).1; omega, rfl, rfl, rfl, Nat.le_refl _, fun _ _ _ => rfl, fun _ _ _ => rfl, fun p o _ h1 h2 => ⟨o, h1, h2⟩⟩
theorem pickA_eq (ops : Array Oper) (tl : List Nat) : pickA ops.toList tl = EvQ.pick ops tl := by
 induction tl with
 | nil => rfl
 | cons i r ih =>
  simp only [pickA, nth_eq, EvQ.pick, List.filterMap_cons]
  simp only [Array.getElem?_toList]
  cases ops[i]? with
  | none => simpa [EvQ.pick] using ih
  | some o => simpa [EvQ.pick] using ih
def Keep (hS h : H) : Prop := ∀ p o, hS.t.get p = some o → o.live = true → h.t.get p = some o
theorem sat_keep {ρ0 ρ : Rho} {hS h : H} {w0 w : World} (s0 : Sat E ρ0 hS w0) (s : Sat E ρ h w) (hk : Keep hS h) (ha : ∀ p : Ev.P, p.toNat < hS.n.toNat → ρ p = ρ0 p) : Sat E ρ0 hS w := by
 refine ⟨fun p o hp => ?_, fun p q o o' hp hq l1 l2 he => ?_, s0.bd⟩
 ·cases hl : o.live with
  | false => cases o <;> simp [O.live] at hl; trivial
  | true =>
   have h1 := s.obj p o (hk p o hp hl)
   rw [ha p (s0.bd p o hp).1] at h1
   exact O.Is_agree E (fun i hi => (ha i hi).symm) (s0.bd p o hp).2 h1
 ·refine s.inj p q o o' (hk p o hp (own_live l1)) (hk q o' hq l2) l1 l2 ?_
  rw [ha p (s0.bd p o hp).1, ha q (s0.bd q o' hq).1]; exact he
theorem dead_run {fr : Fr} {e : Nat} (he : e ≠ 0) : ∀ (bs : List Nat) (h : H) (k : H → Nat), deadT fr e (bs.map keyOf) h k = 0 → ∃ hS, k hS = 0 ∧ hS.n = h.n ∧ Keep hS h ∧
  ∀ (E : Env) ρ w tmps, FrOk E ρ h.n.toNat fr tmps → Sat E ρ h w → Sat E ρ hS w
 | [], h, k, hk => ⟨h, hk, rfl, fun p o hp _ => hp, fun E ρ w tmps _ hs => hs⟩
 | b :: r, h, k, hk => by
  have hk : vPtr (fr.get (keyOf b)) (fun id _ => hset h id .dead (fun h => deadT fr e (r.map keyOf) h k)) e = 0 := hk
  obtain ⟨id, off, hp, hk⟩ := vPtr_ok hk he
  rw [hset_eq] at hk
  obtain ⟨hS, h1, h2, h3, h4⟩ := dead_run he r _ k hk
  refine ⟨hS, h1, h2, fun p o ho hl => ?_, fun E ρ w tmps hf hs => h4 E ρ w tmps hf ?_⟩
  ·have h5 := h3 p o ho hl
   simp only [H.put, get_set] at h5
   split at h5
   ·simp at h5; subst h5; simp [O.live] at hl
   ·exact h5
  ·have hid := (hf b _ hp).2
   have hg : ∀ q o', (h.put id .dead).t.get q = some o' → (q = id ∧ o' = .dead) ∨ h.t.get q = some o' := by
    intro q o' hq
    simp only [H.put, get_set] at hq
    split at hq
    ·rename_i e; simp at hq; exact .inl ⟨Ev.P.toNat_inj e, hq.symm⟩
    ·exact .inr hq
   refine ⟨fun q o' hq => ?_, fun p q o o' hp hq l1 l2 he => ?_, fun q o' hq => ?_⟩
   ·rcases hg q o' hq with ⟨rfl, rfl⟩ | hq
    ·trivial
    ·exact hs.obj q o' hq
   ·rcases hg p o hp with ⟨rfl, rfl⟩ | hp
    ·simp [O.mine] at l1
    ·rcases hg q o' hq with ⟨rfl, rfl⟩ | hq
     ·simp [O.live] at l2
     ·exact hs.inj p q o o' hp hq l1 l2 he
   ·rcases hg q o' hq with ⟨rfl, rfl⟩ | hq
    ·exact ⟨hid, trivial⟩
    ·exact hs.bd q o' hq
theorem isDead_ok {hS : H} {id : Ev.P} (h : isDead hS id = true) : hS.n.toNat ≤ id.toNat ∨ hS.t.get id = some .dead := by
 unfold isDead at h
 rw [hc_eq] at h
 cases hp : pLe hS.n id with
 | true => exact .inl (by simpa [pLe] using hp)
 | false =>
  rw [hp] at h
  have h : (match hS.t.get id with | some .dead => true | _ => false) = true := h
  split at h
  ·rename_i h1; exact .inr h1
  ·simp at h
theorem makes_strong {Y : Ty} (hY : TyOk P Y) {o : Oper} {i : IOp} (hc : cOp Y o.op = some i) {fr : Fr} {h hS : H} (hm : makesO i fr hS = true) {k : KV} {e : Nat} (hr : evI i fr h k e = 0) (he : e ≠ 0) :
  ∃ v h', k v h' = 0 ∧ (∀ (E : Env) (ρ : Rho) (a : Act) (w : World), FrOk E ρ h.n.toNat fr a.tmps → Sat E ρ h w → OpPost E P o a ρ h w v h') ∧
   ((∀ p o, hS.t.get p = some o → p.toNat < hS.n.toNat) → hS.n.toNat ≤ h.n.toNat → Keep hS h → Keep hS h') := by
 rcases evI_par i fr h with h1 | ⟨v, h', h1⟩
 ·exact absurd ((h1 k e).symm.trans hr) he
 ·let k' : KV := fun v2 h2 => @ite _ (v2 = v ∧ h2 = h') (Classical.propDecidable _) 0 1
  have hk' : evI i fr h k' 1 = 0 := (h1 _ _).trans (by simp [k'])
  have hkd : ∀ v2 h2, k' v2 h2 = 0 → h2 = h' := by
   intro v2 h2 hk
   by_cases hc : v2 = v ∧ h2 = h'
   ·exact hc.2
   ·simp only [k'] at hk; rw [if_neg hc] at hk; simp at hk
  refine ⟨v, h', by rw [← h1 k e]; exact hr, fun E ρ a w hf hs => ?_, fun hb hn hke => ?_⟩
  ·obtain ⟨v2, h2, hp, hk⟩ := evI_run hY hc hk' (by simp) hf hs
   by_cases hc : v2 = v ∧ h2 = h'
   ·rw [hc.1, hc.2] at hp; exact hp
   ·simp only [k'] at hk; rw [if_neg hc] at hk; simp at hk
  ·have add : ∀ oo, h.add oo = h' → Keep hS h' := by
    rintro oo rfl p o hp hl
    have h2 := hke p o hp hl
    have h3 := hb p o hp
    simp only [H.add, get_set]
    rw [if_neg (by omega)]; exact h2
   have newk : ∀ t l (vv : Ev.P → V), newR h t l vv k' 1 = 0 → Keep hS h' := by
    intro t l vv hr
    obtain ⟨_, hr⟩ := bc_ok hr (by simp)
    rw [hnew_eq] at hr
    exact add _ (hkd _ _ hr)
   have put : ∀ id oo, isDead hS id = true → h.put id oo = h' → Keep hS h' := by
    rintro id oo hd rfl p o hp hl
    have h2 := hke p o hp hl
    simp only [H.put, get_set]
    rw [if_neg ?_]; exact h2
    intro e
    have e := Ev.P.toNat_inj e
    subst e
    rcases isDead_ok hd with h3 | h3
    ·have := hb _ o hp; omega
    ·rw [hp] at h3; cases h3; simp [O.live] at hl
   cases i <;> simp only [makesO] at hm <;> try (simp at hm; done)
   case new t l => exact newk t l _ hk'
   case box t x =>
    obtain ⟨v, hv, hr⟩ := oc_ok (show oc (od x fr) _ 1 = 0 from hk') (by simp)
    exact newk t _ _ hr
   case bsl t n z ps =>
    obtain ⟨l, hl, hr⟩ := oc_ok (show oc (fill fr z ps) _ 1 = 0 from hk') (by simp)
    exact newk t _ _ hr
   case st n a x =>
    have hk' : bc (Nat.beq n 1) (eSt1 a x) (eStN n a x) fr h k' 1 = 0 := hk'
    cases hb1 : Nat.beq n 1 with
    | true =>
     rw [hb1] at hk'
     have hr : eSt1 a x fr h k' 1 = 0 := hk'
     obtain ⟨id, off, hp, hr⟩ := vPtr_ok hr (by simp)
     obtain ⟨v, hv, hr⟩ := oc_ok hr (by simp)
     obtain ⟨hmm, hr⟩ := bc_ok hr (by simp)
     obtain ⟨oo, ho, hr⟩ := oc_ok hr (by simp)
     obtain ⟨hone, hr⟩ := bc_ok hr (by simp)
     obtain ⟨o', hp', hr⟩ := put1_ok hr (by simp)
     rw [hset_eq] at hr
     rw [hp] at hm
     exact put id o' hm (hkd _ _ hr)
    | false =>
     rw [hb1] at hk'
     have hr : eStN n a x fr h k' 1 = 0 := hk'
     obtain ⟨id, off, hp, hr⟩ := vPtr_ok hr (by simp)
     obtain ⟨v, hv, hr⟩ := oc_ok hr (by simp)
     obtain ⟨hmm, hr⟩ := bc_ok hr (by simp)
     obtain ⟨oo, ho, hr⟩ := oc_ok hr (by simp)
     obtain ⟨hlen, hr⟩ := bc_ok hr (by simp)
     obtain ⟨hone, hr⟩ := bc_ok hr (by simp)
     obtain ⟨o', hp', hr⟩ := putN_ok hr (by simp)
     rw [hset_eq] at hr
     rw [hp] at hm
     exact put id o' hm (hkd _ _ hr)
theorem cHeld_cons {Y : Ty} {all : List Oper} {q : Bool} {i : Nat} {r : List (Bool × Nat)} {l : List (Bool × OI)} (h : cHeld Y N all ((q, i) :: r) = some l) : ∃ o x l', nth all i = some o ∧ cOper Y N all o = some x ∧ cHeld Y N all r = some l' ∧ l = (q, x) :: l' := by
 simp only [cHeld] at h
 split at h
 ·rename_i o r' ho hr
  split at h
  ·rename_i x hx
   simp at h; subst h
   exact ⟨o, x, r', ho, hx, hr, rfl⟩
  ·simp at h
 ·simp at h
theorem guard_none {all : List Oper} {o : Oper} (h : cGuard all o.guard = some none) : o.guard = none := by
 cases hg : o.guard with
 | none => rfl
 | some jw =>
  obtain ⟨j, want⟩ := jw
  rw [hg] at h
  simp only [cGuard] at h
  split at h <;> simp at h
theorem hops_run' {Y : Ty} (hY : TyOk P Y) {g : Ctx} (hcall : CallOk E P g.call) {ops : Array Oper} (hsel : Region.noSelect ops = true) {hS : H} {k : K1} : ∀ (ord : List (Bool × Nat)) (l : List (Bool × OI)) (fr : Fr) (h : H) (fa : Fa),
  cHeld Y N ops.toList ord = some l → FaOk E fa → hopsT hS l g fr h fa k = 0 →
  ∃ fr' h' fa', k fr' h' fa' = 0 ∧ FaOk E fa' ∧ ∀ listed, heldGo ops ord listed = true → ∀ {DS : List Deferred} ρ0 ρ w a QQ, hS.n.toNat ≤ h.n.toNat → Keep hS h → Sat E ρ0 hS w → (∀ p : Ev.P, p.toNat < hS.n.toNat → ρ p = ρ0 p) → Sat E ρ h w → FrOk E ρ h.n.toNat fr (a : Act).tmps → N ≤ a.tmps.size → a.defers = DS →
   (∀ c a w, ¬ QQ (.panic c) a w) → (∀ a' w', At E N DS ρ h w fr' h' a' w' → QQ .normal a' w') → wpAnyH P .any ops QQ (Sat E ρ0 hS) ord.length listed a w
 | [], l, fr, h, fa, hl, hfa, hk => by
  simp [cHeld] at hl; subst hl
  exact ⟨fr, h, fa, hk, hfa, fun listed hB {DS} ρ0 ρ w a QQ hn hke hs0 ha hs hf hN hd hp hq => wpAnyH_done (by simpa [heldGo] using hB) (hq a w ⟨ρ, hf, hN, hd, hs, hs.refl E⟩) _⟩
 | (true, i) :: r, l, fr, h, fa, hl, hfa, hk => by
  obtain ⟨o, x, l2, ho, hx, hl2, rfl⟩ := cHeld_cons hl
  rw [nth_eq, Array.getElem?_toList] at ho
  have hk : OI.go qOp hNo x g fr hS fa (fun fr _ fa => hopsT hS l2 g fr h fa k) = 0 := hk
  obtain ⟨d, gg, hd, hg, hxx⟩ := cOper_ok hx
  rcases hxx with ⟨ii, hi, rfl⟩ | ⟨cl, f0, f, ll, hop, hcal, hf0, hll, rfl⟩
  rotate_left
  ·exact absurd (show err g 63 = 0 from hk) (err_ne _ _)
  have hk : qOp d gg ii g fr hS fa (fun fr _ fa => hopsT hS l2 g fr h fa k) = 0 := hk
  rcases guard_ok hg hfa hk with ⟨fa1, hfa1, hk, hw⟩ | ⟨fa1, hfa1, hk, hw⟩
  ·obtain ⟨hst, hk⟩ := bc_ok hk (err_ne _ _)
   obtain ⟨v, h', hk, hrun⟩ := still_strong hY hi hst hk (err_ne _ _)
   obtain ⟨fr1, hk, hput⟩ := putF'_ok hfa1 hd hk
   obtain ⟨fr2, h2, fa2, hk2, hfa2, hr2⟩ := hops_run' hY hcall hsel r l2 fr1 h fa1 hl2 hfa1 hk
   refine ⟨fr2, h2, fa2, hk2, hfa2, fun listed hB {DS} ρ0 ρ w a QQ hn hke hs0 ha hs hf hN hdf hp hq => ?_⟩
   have conv : ∀ w, Sat E ρ0 hS w → Sat E ρ hS w := fun w s => sat_keep (ρ0 := ρ) (h := hS) ⟨fun p o hp => O.Is_agree E (fun i hi => ha i hi) (s.bd p o hp).2 (by rw [ha p (s.bd p o hp).1]; exact s.obj p o hp),
    fun p q o o' hp hq l1 l2 he => s.inj p q o o' hp hq l1 l2 (by rw [← ha p (s.bd p o hp).1, ← ha q (s.bd q o' hq).1]; exact he), s.bd⟩ s (fun p o hp _ => hp) (fun p hp => (ha p hp).symm)
   simp only [heldGo, Bool.and_eq_true, decide_eq_true_eq] at hB
   obtain ⟨⟨⟨hlt, hfree⟩, hready⟩, hB⟩ := hB
   obtain ⟨g1, g2, g3⟩ := hput ρ _ a hf hN (hrun E ρ _ a w hn hf (conv w hs0)).2
   refine wpAnyH_take (i := i) ho hsel hfree hready (fun c a w hh => absurd hh (hp c _ w)) (.inl ⟨hw ρ _ a hf, fun w' hw' => (hrun E ρ _ a w' hn hf (conv w' hw')).1⟩) hs0 ?_
   exact hr2 _ hB ρ0 ρ w _ QQ hn hke hs0 ha hs g1 g2 (g3.trans hdf) hp hq
  ·obtain ⟨fr1, hk, hput⟩ := putF_ok hd hk
   obtain ⟨fr2, h2, fa2, hk2, hfa2, hr2⟩ := hops_run' hY hcall hsel r l2 fr1 h fa1 hl2 hfa1 hk
   refine ⟨fr2, h2, fa2, hk2, hfa2, fun listed hB {DS} ρ0 ρ w a QQ hn hke hs0 ha hs hf hN hdf hp hq => ?_⟩
   simp only [heldGo, Bool.and_eq_true, decide_eq_true_eq] at hB
   obtain ⟨⟨⟨hlt, hfree⟩, hready⟩, hB⟩ := hB
   obtain ⟨g1, g2, g3⟩ := hput E ρ h.n.toNat a hf hN (by trivial)
   refine wpAnyH_take (i := i) ho hsel hfree hready (fun c a w hh => absurd hh (hp c _ w)) (.inr ⟨hw ρ _ a hf, rfl⟩) hs0 ?_
   exact hr2 _ hB ρ0 ρ w _ QQ hn hke hs0 ha hs g1 g2 (g3.trans hdf) hp hq
 | (false, i) :: r, l, fr, h, fa, hl, hfa, hk => by
  obtain ⟨o, x, l2, ho, hx, hl2, rfl⟩ := cHeld_cons hl
  rw [nth_eq, Array.getElem?_toList] at ho
  have hk : OI.go (hOp hS) (hCall hS) x g fr h fa (fun fr h fa => hopsT hS l2 g fr h fa k) = 0 := hk
  obtain ⟨d, gg, hd, hg, hxx⟩ := cOper_ok hx
  have one : ∀ fr1 h1 fa1, FaOk E fa1 → o.guard = none → hopsT hS l2 g fr1 h1 fa1 k = 0 →
    (∀ {DS : List Deferred} ρ w a QQ, (∀ p o, hS.t.get p = some o → p.toNat < hS.n.toNat) → hS.n.toNat ≤ h.n.toNat → Keep hS h → Sat E ρ h w → FrOk E ρ h.n.toNat fr (a : Act).tmps → N ≤ a.tmps.size → a.defers = DS → o.wp P a w (fun a1 w1 => At E N DS ρ h w fr1 h1 a1 w1 ∧ Keep hS h1) QQ) →
    ∃ fr' h' fa', k fr' h' fa' = 0 ∧ FaOk E fa' ∧ ∀ listed, heldGo ops ((false, i) :: r) listed = true → ∀ {DS : List Deferred} ρ0 ρ w a QQ, hS.n.toNat ≤ h.n.toNat → Keep hS h → Sat E ρ0 hS w → (∀ p : Ev.P, p.toNat < hS.n.toNat → ρ p = ρ0 p) → Sat E ρ h w → FrOk E ρ h.n.toNat fr (a : Act).tmps → N ≤ a.tmps.size → a.defers = DS →
     (∀ c a w, ¬ QQ (.panic c) a w) → (∀ a' w', At E N DS ρ h w fr' h' a' w' → QQ .normal a' w') → wpAnyH P .any ops QQ (Sat E ρ0 hS) ((false, i) :: r).length listed a w := by
   intro fr1 h1 fa1 hfa1 hgd hk1 hstep
   obtain ⟨fr2, h2, fa2, hk2, hfa2, hr2⟩ := hops_run' hY hcall hsel r l2 fr1 h1 fa1 hl2 hfa1 hk1
   refine ⟨fr2, h2, fa2, hk2, hfa2, fun listed hB {DS} ρ0 ρ w a QQ hn hke hs0 ha hs hf hN hdf hp hq => ?_⟩
   simp only [heldGo, Bool.and_eq_true, decide_eq_true_eq] at hB
   obtain ⟨⟨hlt, hready⟩, hB⟩ := hB
   refine wpAnyH_all hready (by simp) fun j hj => ?_
   have hj : j = i := by simpa using hj
   subst hj
   unfold wpOp
   simp only [ho]
   rw [if_pos (by simp [Region.wanted, hgd])]
   refine .inl (wp_mono' ?_ (hstep ρ w a QQ (fun p o hp => (hs0.bd p o hp).1) hn hke hs hf hN hdf))
   rintro a1 w1 ⟨⟨ρ1, f1, n1, d1, s1, x1⟩, hke1⟩
   have ha1 : ∀ p : Ev.P, p.toNat < hS.n.toNat → ρ1 p = ρ0 p := fun p hp => by rw [x1.agree p (by omega), ha p hp]
   have hs1 : Sat E ρ0 hS w1 := sat_keep hs0 s1 hke1 ha1
   exact ⟨hs1, hr2 _ hB ρ0 ρ1 w1 a1 QQ (Nat.le_trans hn x1.len) hke1 hs1 ha1 s1 f1 n1 d1 hp (fun a' w' hA => hq a' w' (hA.trans x1))⟩
  rcases hxx with ⟨ii, hi, rfl⟩ | ⟨cl, f0, f, ll, hop, hcal, hf0, hll, rfl⟩
  ·have hk : oc gg (fun _ => err g 60) (bc (makesO ii fr hS) (evI ii fr h (fun v h => putF' d fa v fr (fun fr => hopsT hS l2 g fr h fa k)) (err g (opCode ii))) (bc (stillO ii) (evI ii fr h (fun v _ => putF' d fa v fr (fun fr => hopsT hS l2 g fr h fa k)) (err g (opCode ii))) (err g 61))) = 0 := hk
   cases gg with
   | some gg => exact absurd (show err g 60 = 0 from hk) (err_ne _ _)
   | none =>
    have hk : bc (makesO ii fr hS) (evI ii fr h (fun v h => putF' d fa v fr (fun fr => hopsT hS l2 g fr h fa k)) (err g (opCode ii))) (bc (stillO ii) (evI ii fr h (fun v _ => putF' d fa v fr (fun fr => hopsT hS l2 g fr h fa k)) (err g (opCode ii))) (err g 61)) = 0 := hk
    cases hmk : makesO ii fr hS with
    | false =>
     rw [hmk] at hk
     obtain ⟨hst, hk⟩ := bc_ok (show bc (stillO ii) _ _ = 0 from hk) (err_ne _ _)
     obtain ⟨v, _, hk, hrun⟩ := still_strong hY hi hst hk (err_ne _ _)
     obtain ⟨fr1, hk, hput⟩ := putF'_ok hfa hd hk
     refine one fr1 h fa hfa (guard_none hg) hk fun {DS} ρ w a QQ hbd hn hke hs hf hN hdf => ?_
     obtain ⟨q1, q2⟩ := hrun E ρ _ a w (Nat.le_refl _) hf hs
     obtain ⟨g1, g2, g3⟩ := hput ρ _ a hf hN q2
     unfold Oper.wp
     rw [q1]
     exact ⟨⟨ρ, g1, g2, g3.trans hdf, hs, hs.refl E⟩, hke⟩
    | true =>
    rw [hmk] at hk
    have hk : evI ii fr h (fun v h => putF' d fa v fr (fun fr => hopsT hS l2 g fr h fa k)) (err g (opCode ii)) = 0 := hk
    obtain ⟨v, h1, hk, hrun, hkeep⟩ := makes_strong hY hi hmk hk (err_ne _ _)
    obtain ⟨fr1, hk, hput⟩ := putF'_ok hfa hd hk
    refine one fr1 h1 fa hfa (guard_none hg) hk fun {DS} ρ w a QQ hbd hn hke hs hf hN hdf => ?_
    obtain ⟨ρ', w', nx, hr, hnx, hs', hx', hb⟩ := hrun E ρ a w hf hs
    obtain ⟨g1, g2, g3⟩ := hput ρ' _ a (hf.mono hx'.len hx'.agree) hN hb
    unfold Oper.wp
    rw [hr]
    have hgo : At E N DS ρ h w fr1 h1 (a.put o.dst (v.γ E ρ')) w' ∧ Keep hS h1 := ⟨⟨ρ', g1, g2, g3.trans hdf, hs', hx'⟩, hkeep hbd hn hke⟩
    rcases hnx with rfl | ⟨rfl, rfl⟩
    ·exact hgo
    ·exact hgo
  ·have hk : oc gg (fun _ => err g 62) (hc h (fun n lo t => hc hS (fun m _ _ => bc (pLe lo m) (callD f ll g fr ⟨n, m, t⟩ fa (fun v h' fa => hc h' (fun n' _ t' => putF d v fr (fun fr => hopsT hS l2 g fr ⟨n', lo, t'⟩ fa k)))) (err g 65)))) = 0 := hk
   cases gg with
   | some gg => exact absurd (show err g 62 = 0 from hk) (err_ne _ _)
   | none =>
    have hk : hc h (fun n lo t => hc hS (fun m _ _ => bc (pLe lo m) (callD f ll g fr ⟨n, m, t⟩ fa (fun v h' fa => hc h' (fun n' _ t' => putF d v fr (fun fr => hopsT hS l2 g fr ⟨n', lo, t'⟩ fa k)))) (err g 65))) = 0 := hk
    rw [hc_eq, hc_eq] at hk
    obtain ⟨hlo, hk⟩ := bc_ok hk (err_ne _ _)
    have hlo : h.lo.toNat ≤ hS.n.toNat := by simpa [pLe] using hlo
    obtain ⟨F, vl, v, h1, fa1, hk, hfa1, hr, hdo⟩ := callD_ok hop hcal hf0 hll hcall hfa hk
    rw [hc_eq] at hk
    obtain ⟨fr1, hk, hput⟩ := putF_ok hd hk
    refine one fr1 ⟨h1.n, h.lo, h1.t⟩ fa1 hfa1 (guard_none hg) hk fun {DS} ρ w a QQ hbd hn hke hs hf hN hdf => ?_
    obtain ⟨hvb, hex⟩ := hr ρ _ a hf
    unfold Oper.wp
    rw [hex, Oper.upon_enter]
    refine (hdo ρ w hvb ⟨hs.obj, hs.inj, hs.bd⟩).mono ?_
    rintro e w' ⟨ρ', rfl, hs', hx', hb⟩
    have hx2 : Ext ρ h w ρ' ⟨h1.n, h.lo, h1.t⟩ w' := by
     refine ⟨hx'.len, rfl, hx'.agree, fun p o hp hg hl => ?_, hx'.os, hx'.tape, hx'.output, hx'.size, fun b hb hno => hx'.keep b hb fun p o hp hl hlo2 => hno p o hp hl (Nat.le_trans hlo hlo2), fun p hp hq => hx'.old p (Nat.lt_of_lt_of_le hp hlo) hq, hx'.liv⟩
     rcases hx'.new p o hp hg hl with h3 | ⟨q, o', h3, h4, h5, h6⟩
     ·exact .inl h3
     ·exact .inr ⟨q, o', h3, h4, Nat.le_trans hlo h5, h6⟩
    obtain ⟨g1, g2, g3⟩ := hput E ρ' _ a (hf.mono hx2.len hx2.agree) hN hb
    refine ⟨⟨ρ', g1, g2, g3.trans hdf, ⟨hs'.obj, hs'.inj, hs'.bd⟩, hx2⟩, fun p o hp hl => ?_⟩
    have hpS := hbd p o hp
    have := hx'.old p hpS (show p.toNat < h.n.toNat by omega)
    show h1.t.get p = some o
    rw [this]; exact hke p o hp hl
theorem hops2_run' {Y : Ty} (hY : TyOk P Y) {g : Ctx} (hcall : CallOk E P g.call) {ops : Array Oper} (hsel : Region.noSelect ops = true) {D tl : List Nat} (hrest : EvQ.restOk ops D = true) {hS : H} {k : K1} : ∀ (ord : List (Bool × Nat)) (l : List (Bool × OI)) (fr : Fr) (h : H) (fa : Fa),
  cHeld Y N ops.toList ord = some l → FaOk E fa → hopsT hS l g fr h fa k = 0 →
  ∃ fr' h' fa', k fr' h' fa' = 0 ∧ FaOk E fa' ∧ ∀ listed, heldGo2 ops D tl ord listed = true → EvQ.Closed ops listed → ∀ {DS : List Deferred} ρ0 ρ w a QQ, hS.n.toNat ≤ h.n.toNat → Keep hS h → Sat E ρ0 hS w → (∀ p : Ev.P, p.toNat < hS.n.toNat → ρ p = ρ0 p) → Sat E ρ h w → FrOk E ρ h.n.toNat fr (a : Act).tmps → N ≤ a.tmps.size → a.defers = DS →
   (∀ c a w, ¬ QQ (.panic c) a w) → (∀ a' w' listed', At E N DS ρ h w fr' h' a' w' → chainB ops tl listed' = true → wpAny P .any ops QQ tl.length listed' a' w') → EvQ.wpAnyT P ops QQ (Sat E ρ0 hS) D (tl.length + ord.length) listed a w
 | [], l, fr, h, fa, hl, hfa, hk => by
  simp [cHeld] at hl; subst hl
  exact ⟨fr, h, fa, hk, hfa, fun listed hB hcl {DS} ρ0 ρ w a QQ hn hke hs0 ha hs hf hN hd hp hq => by
   simp only [heldGo2, Bool.and_eq_true] at hB
   exact EvQ.T_done hB.1 (hq a w listed ⟨ρ, hf, hN, hd, hs, hs.refl E⟩ hB.2)⟩
 | (true, i) :: r, l, fr, h, fa, hl, hfa, hk => by
  obtain ⟨o, x, l2, ho, hx, hl2, rfl⟩ := cHeld_cons hl
  rw [nth_eq, Array.getElem?_toList] at ho
  have hk : OI.go qOp hNo x g fr hS fa (fun fr _ fa => hopsT hS l2 g fr h fa k) = 0 := hk
  obtain ⟨d, gg, hd, hg, hxx⟩ := cOper_ok hx
  rcases hxx with ⟨ii, hi, rfl⟩ | ⟨cl, f0, f, ll, hop, hcal, hf0, hll, rfl⟩
  rotate_left
  ·exact absurd (show err g 63 = 0 from hk) (err_ne _ _)
  have hk : qOp d gg ii g fr hS fa (fun fr _ fa => hopsT hS l2 g fr h fa k) = 0 := hk
  rcases guard_ok hg hfa hk with ⟨fa1, hfa1, hk, hw⟩ | ⟨fa1, hfa1, hk, hw⟩
  ·obtain ⟨hst, hk⟩ := bc_ok hk (err_ne _ _)
   obtain ⟨v, h', hk, hrun⟩ := still_strong hY hi hst hk (err_ne _ _)
   obtain ⟨fr1, hk, hput⟩ := putF'_ok hfa1 hd hk
   obtain ⟨fr2, h2, fa2, hk2, hfa2, hr2⟩ := hops2_run' hY hcall hsel hrest r l2 fr1 h fa1 hl2 hfa1 hk
   refine ⟨fr2, h2, fa2, hk2, hfa2, fun listed hB hcl {DS} ρ0 ρ w a QQ hn hke hs0 ha hs hf hN hdf hp hq => ?_⟩
   have conv : ∀ w, Sat E ρ0 hS w → Sat E ρ hS w := fun w s => sat_keep (ρ0 := ρ) (h := hS) ⟨fun p o hp => O.Is_agree E (fun i hi => ha i hi) (s.bd p o hp).2 (by rw [ha p (s.bd p o hp).1]; exact s.obj p o hp),
    fun p q o o' hp hq l1 l2 he => s.inj p q o o' hp hq l1 l2 (by rw [← ha p (s.bd p o hp).1, ← ha q (s.bd q o' hq).1]; exact he), s.bd⟩ s (fun p o hp _ => hp) (fun p hp => (ha p hp).symm)
   simp only [heldGo2, Bool.and_eq_true, decide_eq_true_eq] at hB
   obtain ⟨⟨⟨⟨hD, hlt⟩, hfree⟩, hready⟩, hB⟩ := hB
   obtain ⟨g1, g2, g3⟩ := hput ρ _ a hf hN (hrun E ρ _ a w hn hf (conv w hs0)).2
   refine EvQ.T_take hrest hcl (i := i) ho (by simpa using hD) hsel hfree hready (fun c a w hh => absurd hh (hp c _ w)) (.inl ⟨hw ρ _ a hf, fun w' hw' => (hrun E ρ _ a w' hn hf (conv w' hw')).1⟩) hs0 ?_
   exact hr2 _ hB (hcl.add (by simpa using hready)) ρ0 ρ w _ QQ hn hke hs0 ha hs g1 g2 (g3.trans hdf) hp hq
  ·obtain ⟨fr1, hk, hput⟩ := putF_ok hd hk
   obtain ⟨fr2, h2, fa2, hk2, hfa2, hr2⟩ := hops2_run' hY hcall hsel hrest r l2 fr1 h fa1 hl2 hfa1 hk
   refine ⟨fr2, h2, fa2, hk2, hfa2, fun listed hB hcl {DS} ρ0 ρ w a QQ hn hke hs0 ha hs hf hN hdf hp hq => ?_⟩
   simp only [heldGo2, Bool.and_eq_true, decide_eq_true_eq] at hB
   obtain ⟨⟨⟨⟨hD, hlt⟩, hfree⟩, hready⟩, hB⟩ := hB
   obtain ⟨g1, g2, g3⟩ := hput E ρ h.n.toNat a hf hN (by trivial)
   refine EvQ.T_take hrest hcl (i := i) ho (by simpa using hD) hsel hfree hready (fun c a w hh => absurd hh (hp c _ w)) (.inr ⟨hw ρ _ a hf, rfl⟩) hs0 ?_
   exact hr2 _ hB (hcl.add (by simpa using hready)) ρ0 ρ w _ QQ hn hke hs0 ha hs g1 g2 (g3.trans hdf) hp hq
 | (false, i) :: r, l, fr, h, fa, hl, hfa, hk => by
  obtain ⟨o, x, l2, ho, hx, hl2, rfl⟩ := cHeld_cons hl
  rw [nth_eq, Array.getElem?_toList] at ho
  have hk : OI.go (hOp hS) (hCall hS) x g fr h fa (fun fr h fa => hopsT hS l2 g fr h fa k) = 0 := hk
  obtain ⟨d, gg, hd, hg, hxx⟩ := cOper_ok hx
  have one : ∀ fr1 h1 fa1, FaOk E fa1 → o.guard = none → hopsT hS l2 g fr1 h1 fa1 k = 0 →
    (∀ {DS : List Deferred} ρ w a QQ, (∀ p o, hS.t.get p = some o → p.toNat < hS.n.toNat) → hS.n.toNat ≤ h.n.toNat → Keep hS h → Sat E ρ h w → FrOk E ρ h.n.toNat fr (a : Act).tmps → N ≤ a.tmps.size → a.defers = DS → o.wp P a w (fun a1 w1 => At E N DS ρ h w fr1 h1 a1 w1 ∧ Keep hS h1) QQ) →
    ∃ fr' h' fa', k fr' h' fa' = 0 ∧ FaOk E fa' ∧ ∀ listed, heldGo2 ops D tl ((false, i) :: r) listed = true → EvQ.Closed ops listed → ∀ {DS : List Deferred} ρ0 ρ w a QQ, hS.n.toNat ≤ h.n.toNat → Keep hS h → Sat E ρ0 hS w → (∀ p : Ev.P, p.toNat < hS.n.toNat → ρ p = ρ0 p) → Sat E ρ h w → FrOk E ρ h.n.toNat fr (a : Act).tmps → N ≤ a.tmps.size → a.defers = DS →
     (∀ c a w, ¬ QQ (.panic c) a w) → (∀ a' w' listed', At E N DS ρ h w fr' h' a' w' → chainB ops tl listed' = true → wpAny P .any ops QQ tl.length listed' a' w') → EvQ.wpAnyT P ops QQ (Sat E ρ0 hS) D (tl.length + ((false, i) :: r).length) listed a w := by
   intro fr1 h1 fa1 hfa1 hgd hk1 hstep
   obtain ⟨fr2, h2, fa2, hk2, hfa2, hr2⟩ := hops2_run' hY hcall hsel hrest r l2 fr1 h1 fa1 hl2 hfa1 hk1
   refine ⟨fr2, h2, fa2, hk2, hfa2, fun listed hB hcl {DS} ρ0 ρ w a QQ hn hke hs0 ha hs hf hN hdf hp hq => ?_⟩
   simp only [heldGo2, Bool.and_eq_true, decide_eq_true_eq] at hB
   obtain ⟨⟨⟨hD, hlt⟩, hready⟩, hB⟩ := hB
   refine EvQ.T_one (i := i) (by simpa using hD) hready ?_
   unfold wpOp
   simp only [ho]
   rw [if_pos (by simp [Region.wanted, hgd])]
   refine .inl (wp_mono' ?_ (hstep ρ w a QQ (fun p o hp => (hs0.bd p o hp).1) hn hke hs hf hN hdf))
   rintro a1 w1 ⟨⟨ρ1, f1, n1, d1, s1, x1⟩, hke1⟩
   have ha1 : ∀ p : Ev.P, p.toNat < hS.n.toNat → ρ1 p = ρ0 p := fun p hp => by rw [x1.agree p (by omega), ha p hp]
   have hs1 : Sat E ρ0 hS w1 := sat_keep hs0 s1 hke1 ha1
   exact ⟨hs1, hr2 _ hB (hcl.add (by rw [hready]; simp)) ρ0 ρ1 w1 a1 QQ (Nat.le_trans hn x1.len) hke1 hs1 ha1 s1 f1 n1 d1 hp (fun a' w' L' hA => hq a' w' L' (hA.trans x1))⟩
  rcases hxx with ⟨ii, hi, rfl⟩ | ⟨cl, f0, f, ll, hop, hcal, hf0, hll, rfl⟩
  ·have hk : oc gg (fun _ => err g 60) (bc (makesO ii fr hS) (evI ii fr h (fun v h => putF' d fa v fr (fun fr => hopsT hS l2 g fr h fa k)) (err g (opCode ii))) (bc (stillO ii) (evI ii fr h (fun v _ => putF' d fa v fr (fun fr => hopsT hS l2 g fr h fa k)) (err g (opCode ii))) (err g 61))) = 0 := hk
   cases gg with
   | some gg => exact absurd (show err g 60 = 0 from hk) (err_ne _ _)
   | none =>
    have hk : bc (makesO ii fr hS) (evI ii fr h (fun v h => putF' d fa v fr (fun fr => hopsT hS l2 g fr h fa k)) (err g (opCode ii))) (bc (stillO ii) (evI ii fr h (fun v _ => putF' d fa v fr (fun fr => hopsT hS l2 g fr h fa k)) (err g (opCode ii))) (err g 61)) = 0 := hk
    cases hmk : makesO ii fr hS with
    | false =>
     rw [hmk] at hk
     obtain ⟨hst, hk⟩ := bc_ok (show bc (stillO ii) _ _ = 0 from hk) (err_ne _ _)
     obtain ⟨v, _, hk, hrun⟩ := still_strong hY hi hst hk (err_ne _ _)
     obtain ⟨fr1, hk, hput⟩ := putF'_ok hfa hd hk
     refine one fr1 h fa hfa (guard_none hg) hk fun {DS} ρ w a QQ hbd hn hke hs hf hN hdf => ?_
     obtain ⟨q1, q2⟩ := hrun E ρ _ a w (Nat.le_refl _) hf hs
     obtain ⟨g1, g2, g3⟩ := hput ρ _ a hf hN q2
     unfold Oper.wp
     rw [q1]
     exact ⟨⟨ρ, g1, g2, g3.trans hdf, hs, hs.refl E⟩, hke⟩
    | true =>
    rw [hmk] at hk
    have hk : evI ii fr h (fun v h => putF' d fa v fr (fun fr => hopsT hS l2 g fr h fa k)) (err g (opCode ii)) = 0 := hk
    obtain ⟨v, h1, hk, hrun, hkeep⟩ := makes_strong hY hi hmk hk (err_ne _ _)
    obtain ⟨fr1, hk, hput⟩ := putF'_ok hfa hd hk
    refine one fr1 h1 fa hfa (guard_none hg) hk fun {DS} ρ w a QQ hbd hn hke hs hf hN hdf => ?_
    obtain ⟨ρ', w', nx, hr, hnx, hs', hx', hb⟩ := hrun E ρ a w hf hs
    obtain ⟨g1, g2, g3⟩ := hput ρ' _ a (hf.mono hx'.len hx'.agree) hN hb
    unfold Oper.wp
    rw [hr]
    have hgo : At E N DS ρ h w fr1 h1 (a.put o.dst (v.γ E ρ')) w' ∧ Keep hS h1 := ⟨⟨ρ', g1, g2, g3.trans hdf, hs', hx'⟩, hkeep hbd hn hke⟩
    rcases hnx with rfl | ⟨rfl, rfl⟩
    ·exact hgo
    ·exact hgo
  ·have hk : oc gg (fun _ => err g 62) (hc h (fun n lo t => hc hS (fun m _ _ => bc (pLe lo m) (callD f ll g fr ⟨n, m, t⟩ fa (fun v h' fa => hc h' (fun n' _ t' => putF d v fr (fun fr => hopsT hS l2 g fr ⟨n', lo, t'⟩ fa k)))) (err g 65)))) = 0 := hk
   cases gg with
   | some gg => exact absurd (show err g 62 = 0 from hk) (err_ne _ _)
   | none =>
    have hk : hc h (fun n lo t => hc hS (fun m _ _ => bc (pLe lo m) (callD f ll g fr ⟨n, m, t⟩ fa (fun v h' fa => hc h' (fun n' _ t' => putF d v fr (fun fr => hopsT hS l2 g fr ⟨n', lo, t'⟩ fa k)))) (err g 65))) = 0 := hk
    rw [hc_eq, hc_eq] at hk
    obtain ⟨hlo, hk⟩ := bc_ok hk (err_ne _ _)
    have hlo : h.lo.toNat ≤ hS.n.toNat := by simpa [pLe] using hlo
    obtain ⟨F, vl, v, h1, fa1, hk, hfa1, hr, hdo⟩ := callD_ok hop hcal hf0 hll hcall hfa hk
    rw [hc_eq] at hk
    obtain ⟨fr1, hk, hput⟩ := putF_ok hd hk
    refine one fr1 ⟨h1.n, h.lo, h1.t⟩ fa1 hfa1 (guard_none hg) hk fun {DS} ρ w a QQ hbd hn hke hs hf hN hdf => ?_
    obtain ⟨hvb, hex⟩ := hr ρ _ a hf
    unfold Oper.wp
    rw [hex, Oper.upon_enter]
    refine (hdo ρ w hvb ⟨hs.obj, hs.inj, hs.bd⟩).mono ?_
    rintro e w' ⟨ρ', rfl, hs', hx', hb⟩
    have hx2 : Ext ρ h w ρ' ⟨h1.n, h.lo, h1.t⟩ w' := by
     refine ⟨hx'.len, rfl, hx'.agree, fun p o hp hg hl => ?_, hx'.os, hx'.tape, hx'.output, hx'.size, fun b hb hno => hx'.keep b hb fun p o hp hl hlo2 => hno p o hp hl (Nat.le_trans hlo hlo2), fun p hp hq => hx'.old p (Nat.lt_of_lt_of_le hp hlo) hq, hx'.liv⟩
     rcases hx'.new p o hp hg hl with h3 | ⟨q, o', h3, h4, h5, h6⟩
     ·exact .inl h3
     ·exact .inr ⟨q, o', h3, h4, Nat.le_trans hlo h5, h6⟩
    obtain ⟨g1, g2, g3⟩ := hput E ρ' _ a (hf.mono hx2.len hx2.agree) hN hb
    refine ⟨⟨ρ', g1, g2, g3.trans hdf, ⟨hs'.obj, hs'.inj, hs'.bd⟩, hx2⟩, fun p o hp hl => ?_⟩
    have hpS := hbd p o hp
    have := hx'.old p hpS (show p.toNat < h.n.toNat by omega)
    show h1.t.get p = some o
    rw [this]; exact hke p o hp hl
theorem chain_run {Y : Ty} (hY : TyOk P Y) {g : Ctx} (hcall : CallOk E P g.call) {ops : Array Oper} {k : K1} : ∀ (tl : List Nat) (l' : List OI) (fr : Fr) (h : H) (fa : Fa), cOpers Y N ops.toList (pickA ops.toList tl) = some l' → FaOk E fa → opsT l' g fr h fa k = 0 →
  ∃ fr' h' fa', k fr' h' fa' = 0 ∧ FaOk E fa' ∧ ∀ listed, chainB ops tl listed = true → ∀ {DS : List Deferred} ρ w a QQ, Sat E ρ h w → FrOk E ρ h.n.toNat fr (a : Act).tmps → N ≤ a.tmps.size → a.defers = DS → (∀ a' w', At E N DS ρ h w fr' h' a' w' → QQ .normal a' w') → wpAny P .any ops QQ tl.length listed a w
 | [], l', fr, h, fa, hl, hfa, hk => by
  simp [pickA, cOpers] at hl; subst hl
  exact ⟨fr, h, fa, hk, hfa, fun listed hB {DS} ρ w a QQ hs hf hN hd hq => wpAny_done (by simpa [chainB] using hB) (hq a w ⟨ρ, hf, hN, hd, hs, hs.refl E⟩) _⟩
 | i :: r, l', fr, h, fa, hl, hfa, hk => by
  cases ho : nth ops.toList i with
  | none =>
   simp only [pickA, ho] at hl
   obtain ⟨fr2, h2', fa2, hk2, hfa2, _⟩ := chain_run hY hcall r l' fr h fa hl hfa hk
   refine ⟨fr2, h2', fa2, hk2, hfa2, fun listed hB => ?_⟩
   simp only [chainB, Bool.and_eq_true, decide_eq_true_eq] at hB
   rw [nth_eq, Array.getElem?_toList] at ho
   have := hB.1.1
   simp [this] at ho
  | some o =>
   simp only [pickA, ho] at hl
   rw [nth_eq, Array.getElem?_toList] at ho
   obtain ⟨x, l2, hx, hl2, rfl⟩ := cOpers_cons hl
   have hk : OI.go stepOp stepCall x g fr h fa (fun fr h fa => opsT l2 g fr h fa k) = 0 := hk
   obtain ⟨fr1, h1, fa1, hk1, hfa1, hone⟩ := step_run hY hx hcall hfa hk
   obtain ⟨fr2, h2', fa2, hk2, hfa2, h3⟩ := chain_run hY hcall r l2 fr1 h1 fa1 hl2 hfa1 hk1
   refine ⟨fr2, h2', fa2, hk2, hfa2, fun listed hB {DS} ρ w a QQ hs hf hN hd hq => ?_⟩
   simp only [chainB, Bool.and_eq_true, decide_eq_true_eq] at hB
   obtain ⟨⟨hlt, hready⟩, hB⟩ := hB
   have next : ∀ a1 w1, At E N DS ρ h w fr1 h1 a1 w1 → wpAny P .any ops QQ r.length (listed.setIfInBounds i true) a1 w1 := by
    rintro a1 w1 ⟨ρ1, f1, n1, d1, s1, x1⟩
    exact h3 _ hB ρ1 w1 a1 QQ s1 f1 n1 d1 (fun a' w' hA => hq a' w' (hA.trans x1))
   refine wpAny_all hready (by simp) fun j hj => ?_
   have hj : j = i := by simpa using hj
   subst hj
   unfold wpOp
   simp only [ho]
   rcases hone ρ w a QQ hs hf hN hd with ⟨hw, hwp⟩ | ⟨hw, hA⟩
   ·rw [if_pos hw]
    exact .inl (wp_mono' next hwp)
   ·rw [if_neg (by simp [hw])]
    exact next _ _ hA
theorem hold2_run {Y : Ty} (hY : TyOk P Y) (hm : P.follows .mixedOrders = true) {g : Ctx} (hcall : CallOk E P g.call) {id : Nat} {ops : Array Oper} {bs : List Nat} {ord : List (Bool × Nat)} {tl : List Nat} (hB : hold2B ops ord tl = true)
  {l : List (Bool × OI)} (hl : cHeld Y N ops.toList ord = some l) {t : List OI} (ht : cOpers Y N ops.toList (pickA ops.toList tl) = some t) {fr : Fr} {h : H} {fa : Fa} {k : K2} (hfa : FaOk E fa)
  (hk : codeT (.seq (.hops (bs.map keyOf) l) (.ops t)) g fr h fa k = 0) : Runs E P N (.region id ops true) fr h k := by
 simp only [hold2B, Bool.and_eq_true, decide_eq_true_eq] at hB
 obtain ⟨⟨⟨hsel, hlen⟩, hrest⟩, hgo⟩ := hB
 have hk : deadT fr (err g 64) (bs.map keyOf) h (fun hS => hopsT hS l g fr h fa (fun fr h fa => opsT t g fr h fa (fun fr h fa => k .normal fr h fa))) = 0 := hk
 obtain ⟨hS, hk, hSn, hke, hSat⟩ := dead_run (err_ne _ _) bs h _ hk
 obtain ⟨fr1, h1, fa1, hk1, hfa1, hr⟩ := hops2_run' hY hcall hsel (tl := tl) hrest ord l fr h fa hl hfa hk
 obtain ⟨fr2, h2, fa2, hk2, hfa2, hc⟩ := chain_run hY hcall tl t fr1 h1 fa1 ht hfa1 hk1
 refine ⟨.normal, fr2, h2, fa2, hk2, hfa2, fun {DS} ρ w a QQ hs hf hN hd hQ => ?_⟩
 have hs1 : Sat E ρ h { w with drawn := w.drawn + 1 } := ⟨hs.obj, hs.inj, hs.bd⟩
 have hx1 : Ext ρ h w ρ h { w with drawn := w.drawn + 1 } := ext_drew hs
 refine Go.wp_mono (Q := fun e a' w' => e = .normal ∧ At E N DS ρ h w fr2 h2 a' w') (EvQ.wp_region_T (S := Sat E ρ hS) (D := ord.map (·.2)) hm ?_) (fun e a' w' ⟨he, hA⟩ => by rw [he]; exact hQ a' w' hA)
 have key := hr _ hgo (EvQ.Closed.none _) ρ ρ _ a (fun e a' w' => e = .normal ∧ At E N DS ρ h w fr2 h2 a' w') (by rw [hSn]; exact Nat.le_refl _) hke (hSat E ρ _ _ hf hs1) (fun _ _ => rfl) hs1 hf hN hd (fun c a w hh => (by cases hh.1)) (by
  rintro a' w' L ⟨ρ1, f1, n1, d1, s1, x1⟩ hch
  exact hc L hch ρ1 w' a' _ s1 f1 n1 d1 (fun a2 w2 hA => ⟨rfl, (hA.trans x1).trans hx1⟩))
 rw [show tl.length + ord.length = ops.size by omega] at key
 exact key
theorem held_run {Y : Ty} (hY : TyOk P Y) (hm : P.follows .mixedOrders = true) {g : Ctx} (hcall : CallOk E P g.call) {id : Nat} {ops : Array Oper} {bs : List Nat} {ord : List (Bool × Nat)} (hB : heldB ops ord = true)
  {l : List (Bool × OI)} (hl : cHeld Y N ops.toList ord = some l) {fr : Fr} {h : H} {fa : Fa} {k : K2} (hfa : FaOk E fa) (hk : cHops (bs.map keyOf) l g fr h fa k = 0) : Runs E P N (.region id ops true) fr h k := by
 simp only [heldB, Bool.and_eq_true, decide_eq_true_eq] at hB
 obtain ⟨⟨hsel, hlen⟩, hgo⟩ := hB
 obtain ⟨hS, hk, hSn, hke, hSat⟩ := dead_run (err_ne _ _) bs h _ hk
 obtain ⟨fr1, h1, fa1, hk1, hfa1, hr⟩ := hops_run' hY hcall hsel ord l fr h fa hl hfa hk
 refine ⟨.normal, fr1, h1, fa1, hk1, hfa1, fun {DS} ρ w a QQ hs hf hN hd hQ => ?_⟩
 have hs1 : Sat E ρ h { w with drawn := w.drawn + 1 } := ⟨hs.obj, hs.inj, hs.bd⟩
 have hx1 : Ext ρ h w ρ h { w with drawn := w.drawn + 1 } := ext_drew hs
 refine Go.wp_mono (Q := fun e a' w' => e = .normal ∧ At E N DS ρ h w fr1 h1 a' w') (wp_region_held (S := Sat E ρ hS) hm ?_) (fun e a' w' ⟨he, hA⟩ => by rw [he]; exact hQ a' w' hA)
 have key := hr _ hgo ρ ρ _ a (fun e a' w' => e = .normal ∧ At E N DS ρ h w fr1 h1 a' w') (by rw [hSn]; exact Nat.le_refl _) hke (hSat E ρ _ _ hf hs1) (fun _ _ => rfl) hs1 hf hN hd (fun c a w hh => (by cases hh.1)) (fun a' w' hA => ⟨rfl, hA.trans hx1⟩)
 rw [hlen] at key
 exact key
theorem wp_region_mix {id : Nat} {ops : Array Oper} {Q : Exit → Act → World → Prop} {C : World → Prop} {a : Act} {w : World} (n : Nat) (ord : List (Bool × Nat)) (hm : P.follows .mixedOrders = true) (hB : mixB ops n ord = true) (hC : C { w with drawn := w.drawn + 1 })
  (h : wpQuiet P ops C (fun a' => ∀ w' listed, C w' → heldGo ops ord listed = true → wpAny P .any ops Q ord.length listed a' w') (ops.toList.take n) a) : (Code.region id ops true).wp P Q a w := by
 simp only [mixB, Bool.and_eq_true, decide_eq_true_eq] at hB
 obtain ⟨⟨⟨⟨⟨hsel, hn⟩, hs⟩, hc⟩, hsz⟩, hlex⟩ := hB
 have hlen : (ops.toList.take n).length = n := by simp; omega
 have inv : HeadInv .any ops n (Array.replicate ops.size false) :=
  ⟨by simp, fun j oj _ hl => by rw [getD_replicate_false] at hl; simp at hl, fun t _ ht => getD_in (by simpa using ht) (getD_replicate_false _ _)⟩
 have h1 := EvQ.headQ_lexF (P := P) (C := C) (md := .any) (n := n) (F := mixG ops n ord)
  (fun listed hF j hj => by
   simp only [mixG, Bool.and_eq_true, List.all_eq_true, decide_eq_true_eq] at hF
   exact hF.1 j hj)
  hsel (fun listed inv i hi hun t ht => EvQ.tailB_waits hs hc hn inv _ i rfl hi hun t ht) (ops.toList.take n) 0 _ a (fun j hj => by
  have hj : j < n := by omega
  simp [List.getElem?_take, hj]) (by simpa using hlen) inv (by rw [hlen]; exact hlex) h
 rw [hlen] at h1
 refine wp_region_any hm ?_
 rw [show wpAny P .any ops Q ops.size = wpAny P .any ops Q (n + ord.length) from by rw [hsz]]
 refine EvQ.headQ_any (C := C) (fun listed a' w' hw' hL => ?_) n _ a _ hC h1
 obtain ⟨⟨hF, _⟩, hK⟩ := hL
 simp only [mixG, Bool.and_eq_true] at hF
 exact hK w' listed hw' hF.2
theorem mix_run {Y : Ty} (hY : TyOk P Y) (hm : P.follows .mixedOrders = true) {g : Ctx} (hcall : CallOk E P g.call) {id : Nat} {ops : Array Oper} {n : Nat} {bs : List Nat} {ord : List (Bool × Nat)} (hB : mixB ops n ord = true)
  {hd : List OI} (hhd : cOpers Y N ops.toList (ops.toList.take n) = some hd) {l : List (Bool × OI)} (hl : cHeld Y N ops.toList ord = some l) {fr : Fr} {h : H} {fa : Fa} {k : K2} (hfa : FaOk E fa)
  (hk : qopsT hd g fr h fa (fun fr h fa => cHops (bs.map keyOf) l g fr h fa k) = 0) : Runs E P N (.region id ops true) fr h k := by
 obtain ⟨fr0, fa0, hk, hfa0, hq⟩ := qopsT_run hY hcall _ _ fr fa hhd hfa hk
 obtain ⟨hS, hk, hSn, hke, hSat⟩ := dead_run (err_ne _ _) bs h _ hk
 have hsel : Region.noSelect ops = true := by
  simp only [mixB, Bool.and_eq_true] at hB; exact hB.1.1.1.1.1
 obtain ⟨fr1, h1, fa1, hk1, hfa1, hr⟩ := hops_run' hY hcall hsel ord l fr0 h fa0 hl hfa0 hk
 refine ⟨.normal, fr1, h1, fa1, hk1, hfa1, fun {DS} ρ w a QQ hs hf hN hd hQ => ?_⟩
 have hs1 := sat_drew hs
 have hC1 : Cls E ρ h w.drew { w with drawn := w.drawn + 1 } := ⟨hs1, hs1.refl E⟩
 refine Go.wp_mono (Q := fun e a' w' => e = .normal ∧ At E N DS ρ h w fr1 h1 a' w') (wp_region_mix n ord hm hB hC1 ?_) (fun e a' w' ⟨he, hA⟩ => by rw [he]; exact hQ a' w' hA)
 refine hq ρ w.drew a _ hs1 hf hN hd fun a2 f2 n2 d2 w2 listed hw2 hgo => wpAny_of_held (S := Sat E ρ hS) _ _ _ _ ?_
 exact hr listed hgo ρ ρ w2 a2 (fun e a' w' => e = .normal ∧ At E N DS ρ h w fr1 h1 a' w') (by rw [hSn]; exact Nat.le_refl _) hke (hSat E ρ _ _ f2 hw2.1) (fun _ _ => rfl) hw2.1 f2 n2 d2 (fun c a w hh => (by cases hh.1)) (fun a' w' hA => ⟨rfl, hA.trans ((ext_drew hs).trans hw2.2)⟩)
theorem tail_run {Y : Ty} (hY : TyOk P Y) (hm : P.follows .mixedOrders = true) {g : Ctx} (hcall : CallOk E P g.call) {id : Nat} {ops : Array Oper} {m : Nat} {tl : List Nat} (hB : tailOk ops m tl = true)
  {hd t : List OI} (h1 : cOpers Y N ops.toList (ops.toList.take m) = some hd) (h2 : cOpers Y N ops.toList (EvQ.pick ops tl) = some t) (hno : tl = [] → ops.size ≤ m)
  {fr : Fr} {h : H} {fa : Fa} {k : K2} (hfa : FaOk E fa) (hk : qopsT hd g fr h fa (fun fr h fa => opsT t g fr h fa (fun fr h fa => k .normal fr h fa)) = 0) : Runs E P N (.region id ops true) fr h k := by
 obtain ⟨fr1, fa1, hk1, hfa1, hq⟩ := qopsT_run hY hcall _ _ fr fa h1 hfa hk
 obtain ⟨fr2, h2', fa2, hk2, hfa2, ho⟩ := opsT_run hY hcall _ _ fr1 h fa1 h2 hfa1 hk1
 refine ⟨.normal, fr2, h2', fa2, hk2, hfa2, fun {DS} ρ w a QQ hs hf hN hd hQ => ?_⟩
 have hs1 := sat_drew hs
 have hC1 : Cls E ρ h w.drew { w with drawn := w.drawn + 1 } := ⟨hs1, hs1.refl E⟩
 have fin : ∀ a', FrOk E ρ h.n.toNat fr1 (a' : Act).tmps → N ≤ a'.tmps.size → a'.defers = DS → ∀ w', Cls E ρ h w.drew w' → wpList P ops QQ (EvQ.pick ops tl) a' w' := by
  intro a' hf' hN' hd' w' hw'
  refine ho ρ w' a' QQ hw'.1 hf' hN' hd' (fun a2 w2 hA => hQ a2 w2 (hA.trans ((ext_drew hs).trans hw'.2)))
 have hgo := hq ρ w.drew a (fun a' => ∀ w', Cls E ρ h w.drew w' → wpList P ops QQ (EvQ.pick ops tl) a' w') hs1 hf hN hd fin
 simp only [tailOk, Bool.or_eq_true, Bool.and_eq_true, decide_eq_true_eq, List.isEmpty_iff] at hB
 rcases hB with (hB | ⟨⟨hle, rfl⟩, hB⟩) | ⟨rfl, hB⟩
 ·exact EvQ.wp_region_head m tl hm hB hC1 hgo
 ·have hle' : ops.toList.length ≤ m := by simpa using hle
  rw [List.take_of_length_le hle'] at hgo
  refine wp_region_quiet hm hB hC1 ?_
  exact hgo
 ·simp only [EvQ.lexTwo, Bool.and_eq_true, decide_eq_true_eq] at hB
  have hn : m < ops.size := hB.1.1.1.2
  have := hno rfl
  omega
theorem two_run {Y : Ty} (hY : TyOk P Y) (hm : P.follows .mixedOrders = true) {g : Ctx} (hcall : CallOk E P g.call) {id : Nat} {ops : Array Oper} {m : Nat} {o : Oper} (ho : ops[m]? = some o) (hB : tailOk ops m [] = true)
  {hd r : List OI} {i : OI} (h1 : cOpers Y N ops.toList (ops.toList.take m) = some hd) (h2 : cOper Y N ops.toList o = some i) (h3 : cOpers Y N ops.toList (ops.toList.drop (m + 1)) = some r)
  {fr : Fr} {h : H} {fa : Fa} {k : K2} (hfa : FaOk E fa) (hk : qopsT hd g fr h fa (fun fr h fa => opsT [i] g fr h fa (fun fr h fa => qopsT r g fr h fa (fun fr h fa => k .normal fr h fa))) = 0) : Runs E P N (.region id ops true) fr h k := by
 obtain ⟨fr1, fa1, hk1, hfa1, hq⟩ := qopsT_run hY hcall _ _ fr fa h1 hfa hk
 obtain ⟨fr2, h2', fa2, hk2, hfa2, hs2⟩ := step_run hY h2 hcall hfa1 hk1
 obtain ⟨fr3, fa3, hk3, hfa3, hq3⟩ := qopsT_run hY hcall _ _ fr2 fa2 h3 hfa2 hk2
 refine ⟨.normal, fr3, h2', fa3, hk3, hfa3, fun {DS} ρ w a QQ hs hf hN hd hQ => ?_⟩
 have hs1 := sat_drew hs
 have hC1 : Cls E ρ h w.drew { w with drawn := w.drawn + 1 } := ⟨hs1, hs1.refl E⟩
 have hm2 : m < ops.size := (Array.getElem?_eq_some_iff.1 ho).1
 have hB : EvQ.lexTwo .any ops m = true := by
  simp only [tailOk, Bool.or_eq_true, Bool.and_eq_true, decide_eq_true_eq, List.isEmpty_iff] at hB
  rcases hB with (hB | ⟨⟨hle, _⟩, _⟩) | ⟨_, hB⟩
  ·simp only [EvQ.lexTailP, Bool.and_eq_true, decide_eq_true_eq, List.length_nil] at hB
   omega
  ·omega
  ·exact hB
 refine EvQ.wp_region_two (C := Cls E ρ h w.drew) m hm hB hC1 ?_
 refine hq ρ w.drew a _ hs1 hf hN hd fun a1 f1 n1 d1 w1 hw1 => ?_
 have after : ∀ a2 w2, At E N DS ρ h w1 fr2 h2' a2 w2 → ∃ C2 : World → Prop, C2 w2 ∧ wpQuiet P ops C2 (fun a3 => ∀ w3, C2 w3 → QQ .normal a3 w3) (ops.toList.drop (m + 1)) a2 := by
  rintro a2 w2 ⟨ρ2, f2, n2, d2, s2, x2⟩
  refine ⟨Cls E ρ2 h2' w2, ⟨s2, s2.refl E⟩, ?_⟩
  refine hq3 ρ2 w2 a2 _ s2 f2 n2 d2 fun a3 f3 n3 d3 w3 hw3 => ?_
  exact hQ a3 w3 ⟨ρ2, f3, n3, d3, hw3.1, ((ext_drew hs).trans hw1.2).trans (x2.trans hw3.2)⟩
 unfold wpOp
 simp only [ho]
 rcases hs2 ρ w1 a1 QQ hw1.1 f1 n1 d1 with ⟨hw, hwp⟩ | ⟨hw, hA⟩
 ·rw [if_pos hw]
  exact .inl (wp_mono' after hwp)
 ·rw [if_neg (by simp [hw])]
  exact after _ _ hA
theorem satq_alloc {ρ : Rho} {h : H} {w : World} (s : Sat E ρ h w) (o : Obj) : Sat E ρ h (w.alloc o) :=
 ⟨fun p x hp => O.Is_heap E (fun hl => by rw [heap_alloc, Array.getElem?_push, if_neg (by have := s.lt E hp hl; omega)]) (s.obj p x hp), s.inj, s.bd⟩
theorem extq_alloc {ρ : Rho} {h : H} {w : World} (s : Sat E ρ h w) (o : Obj) : Ext ρ h w ρ h (w.alloc o) :=
 ⟨Nat.le_refl _, rfl, fun _ _ => rfl, fun p x h1 h2 => by have := (s.bd p x h2).1; omega, rfl, rfl, rfl, by simp [heap_alloc], fun b hb _ => by rw [heap_alloc, Array.getElem?_push, if_neg (by omega)], fun _ _ _ => rfl, fun p x _ h1 h2 => ⟨x, h1, h2⟩⟩
def CellQ (ob : Obj) (s0 b : Nat) (ρ : Rho) (h : H) (w : World) : Prop := w.heap[b]? = some ob ∧ s0 ≤ b ∧ ∀ p o, h.t.get p = some o → o.live = true → (ρ p).b ≠ b
theorem CellQ.step {ob : Obj} {s0 b : Nat} {ρ ρ1 : Rho} {h h1 : H} {w w1 : World} (c : CellQ ob s0 b ρ h w) (x : Ext ρ h w ρ1 h1 w1) : CellQ ob s0 b ρ1 h1 w1 := by
 obtain ⟨c1, c2, c3⟩ := c
 have hb : b < w.heap.size := lt_of_some c1
 refine ⟨by rw [x.keep b hb (fun p o hp hl _ => c3 p o hp hl)]; exact c1, c2, fun p o hp hl => ?_⟩
 by_cases hn : p.toNat < h.n.toNat
 ·obtain ⟨o', h2, h3⟩ := x.liv p o hn hp hl
  rw [x.agree p hn]; exact c3 p o' h2 h3
 ·rcases x.new p o (by omega) hp hl with h2 | ⟨q', o', h2, h3, _, h4⟩
  ·omega
  ·rw [← h4]; exact c3 q' o' h2 h3
def actQ (vl : Nat → Value) (d : Option Tmp) (lq : Option Nat) (a : Act) : Act := match lq with
 | none => a
 | some b => a.put d (vl b)
def celQ (ob : Obj) (s0 : Nat) (lq : Option Nat) (ρ : Rho) (h : H) (w : World) : Prop := match lq with
 | none => True
 | some b => CellQ ob s0 b ρ h w
theorem celQ.step {ob : Obj} {s0 : Nat} {lq : Option Nat} {ρ ρ1 : Rho} {h h1 : H} {w w1 : World} (c : celQ ob s0 lq ρ h w) (x : Ext ρ h w ρ1 h1 w1) : celQ ob s0 lq ρ1 h1 w1 := by
 cases lq with
 | none => trivial
 | some b => exact CellQ.step c x
def AtQ (E : Env) (N : Nat) (DS : List Deferred) (ob : Obj) (s0 : Nat) (lq : Option Nat) (ρ : Rho) (h : H) (w : World) (fr' : Fr) (h' : H) (a' : Act) (w' : World) : Prop :=
 ∃ ρ', FrOk E ρ' h'.n.toNat fr' a'.tmps ∧ N ≤ a'.tmps.size ∧ a'.defers = DS ∧ Sat E ρ' h' w' ∧ Ext ρ h w ρ' h' w' ∧ celQ ob s0 lq ρ' h' w'
theorem AtQ.trans {DS : List Deferred} {ob : Obj} {s0 : Nat} {lq : Option Nat} {ρ ρ1 : Rho} {h h1 : H} {w w1 : World} (hx : Ext ρ h w ρ1 h1 w1) {fr : Fr} {h' : H} {a : Act} {w' : World} (s : AtQ E N DS ob s0 lq ρ1 h1 w1 fr h' a w') : AtQ E N DS ob s0 lq ρ h w fr h' a w' := by
 obtain ⟨ρ', s1, s2, s3, s4, s5, s6⟩ := s
 exact ⟨ρ', s1, s2, s3, s4, hx.trans s5, s6⟩
structure MakesQ (P : Program) (ops : Array Oper) (q : Nat) (oq : Oper) (ob : Obj) (vl : Nat → Value) : Prop where
 at_ : ops[q]? = some oq
 guard : oq.guard = none
 run : ∀ (a : Act) (w : World), (execOp a.eval oq).run P w = .ok (.value (vl w.heap.size)) (w.alloc ob)
theorem MakesQ.op {ops : Array Oper} {q : Nat} {oq : Oper} {ob : Obj} {vl : Nat → Value} (m : MakesQ P ops q oq ob vl) {QQ : Exit → Act → World → Prop} {K : Act → World → Prop} {a : Act} {w : World}
  (h : K (actQ vl oq.dst (some w.heap.size) a) (w.alloc ob)) : wpOp P ops QQ q K a w := by
 unfold wpOp
 simp only [m.at_]
 rw [if_pos (by simp [Region.wanted, m.guard])]
 refine .inl ?_
 unfold Oper.wp
 rw [m.run]
 exact h
def AtS (E : Env) (N : Nat) (DS : List Deferred) (ob : Obj) (s0 : Nat) (ρ0 : Rho) (hS : H) (lq : Option Nat) (ρ : Rho) (h : H) (w : World) (fr' : Fr) (h' : H) (a' : Act) (w' : World) : Prop :=
 ∃ ρ', FrOk E ρ' h'.n.toNat fr' a'.tmps ∧ N ≤ a'.tmps.size ∧ a'.defers = DS ∧ Sat E ρ' h' w' ∧ Ext ρ h w ρ' h' w' ∧ celQ ob s0 lq ρ' h' w' ∧ s0 ≤ w'.heap.size ∧ hS.n.toNat ≤ h'.n.toNat ∧ Keep hS h' ∧ Sat E ρ0 hS w' ∧ ∀ p : Ev.P, p.toNat < hS.n.toNat → ρ' p = ρ0 p
theorem AtS.trans {DS : List Deferred} {ob : Obj} {s0 : Nat} {ρ0 : Rho} {hS : H} {lq : Option Nat} {ρ ρ1 : Rho} {h h1 : H} {w w1 : World} (hx : Ext ρ h w ρ1 h1 w1) {fr : Fr} {h' : H} {a : Act} {w' : World} (s : AtS E N DS ob s0 ρ0 hS lq ρ1 h1 w1 fr h' a w') : AtS E N DS ob s0 ρ0 hS lq ρ h w fr h' a w' := by
 obtain ⟨ρ', s1, s2, s3, s4, s5, s6⟩ := s
 exact ⟨ρ', s1, s2, s3, s4, hx.trans s5, s6⟩
end Go.Ev
end
/-
 Regions that fill a map: the map is made at any time, what is laid into it is laid in whatever order.
-/
set_option linter.unusedSimpArgs false
set_option linter.unusedVariables false
noncomputable section
namespace Go.Ev
open Go
variable {E : Env} {P : Program} {N : Nat}
def FrAt (E : Env) (ρ : Rho) (n : Nat) (FR : Fr) (tmps : Array Value) (sl : List Nat) : Prop := ∀ t ∈ sl, ∀ v, FR.get (keyOf t) = some v → tmps[t]? = some (v.γ E ρ) ∧ v.bd n
structure MapSt (ops : Array Oper) (qs cs : List (Nat × List Nat)) (q dq : Nat) (ins : List (Nat × List Nat)) (ty : TypeId) (n0 : Nat) : Prop where
 le : n0 ≤ ops.size
 q0 : q < n0
 nd : (qs.map (·.1) ++ (cs.map (·.1) ++ q :: ins.map (·.1))).Nodup
 cov : ∀ i, i < n0 → i ∈ qs.map (·.1) ++ (cs.map (·.1) ++ q :: ins.map (·.1))
 low : ∀ i, i < n0 → ∀ j ∈ EvQ.edgesOf ops i, j < i
 lt : ∀ x ∈ qs ++ (cs ++ ins), x.1 < n0
 sl : ∀ x ∈ qs ++ (cs ++ ins), ∀ t ∈ x.2, t ≠ dq ∧ ∀ j o, ops[j]? = some o → o.dst = some t → j ∈ EvQ.edgesOf ops x.1
 ch : ∀ p a b r, cs = p ++ a :: b :: r → a.1 ∈ EvQ.edgesOf ops b.1
 insq : ∀ x ∈ ins, q ∈ EvQ.edgesOf ops x.1
 dst : ∀ i j o o' t, i < n0 → j < n0 → ops[i]? = some o → ops[j]? = some o' → o.dst = some t → o'.dst = some t → i = j
 tl : ∀ i, n0 ≤ i → i < ops.size → ∀ j, j < n0 → j ∈ EvQ.edgesOf ops i
def kvA (kvl : List (V × V)) (n : Nat) : V × V := kvl.getD n (.nil, .nil)
def DstOk (E : Env) (N : Nat) (FR : Fr) (o : Oper) (v : V) : Prop := ∀ t, o.dst = some t → t < N ∧ ∃ u, FR.get (keyOf t) = some u ∧ ∀ ρ n, v.bd n → u.γ E ρ = v.γ E ρ ∧ u.bd n
inductive Ch (E : Env) (P : Program) (N : Nat) (ops : Array Oper) (FR : Fr) (hS : H) : List (Nat × List Nat) → H → H → Prop where
 | nil (h : H) : Ch E P N ops FR hS [] h h
 | cons {x : Nat × List Nat} {r : List (Nat × List Nat)} {h h1 hN : H} {o : Oper} {v : V} : ops[x.1]? = some o → o.guard = none → Keep hS h1 → DstOk E N FR o v →
   (∀ ρ (a : Act) w QQ, FrAt E ρ h.n.toNat FR a.tmps x.2 → Sat E ρ h w → o.wp P a w (fun a1 w1 => ∃ ρ1, a1 = a.put o.dst (v.γ E ρ1) ∧ Sat E ρ1 h1 w1 ∧ Ext ρ h w ρ1 h1 w1 ∧ v.bd h1.n.toNat) QQ) →
   Ch E P N ops FR hS r h1 hN → Ch E P N ops FR hS (x :: r) h hN
def MapInv (E : Env) (q dq : Nat) (ins : List (Nat × List Nat)) (kvl : List (V × V)) (w0 : World) (L : Array Bool) (lq : Option (Nat × List Nat)) (ρ : Rho) (h : H) (w : World) (a : Act) : Prop := match lq with
 | none => L.getD q true = false ∧ ∀ x ∈ ins, L.getD x.1 true = false
 | some (b, ll) => L.getD q false = true ∧ a.tmps[dq]? = some (.map (some b)) ∧ w0.heap.size ≤ b ∧ (∀ p o, h.t.get p = some o → o.live = true → (ρ p).b ≠ b) ∧ ll.Nodup ∧ (∀ n ∈ ll, n < ins.length) ∧
  (∀ n x, ins[n]? = some x → (n ∈ ll ↔ L.getD x.1 false = true)) ∧ (∀ n ∈ ll, (kvA kvl n).1.bd h.n.toNat ∧ (kvA kvl n).2.bd h.n.toNat) ∧
  ∃ es : Array MapEntry, w.heap[b]? = some (.map es es.size) ∧ es.toList.map (fun e => (e.key, e.val)) = (ll.map (kvA kvl)).map (fun p => (p.1.γ E ρ, p.2.γ E ρ)) ∧ ∀ (i : Nat) (e : MapEntry), es[i]? = some e → e.born = i
structure MInv (E : Env) (N : Nat) (ops : Array Oper) (cs : List (Nat × List Nat)) (q dq : Nat) (ins : List (Nat × List Nat)) (n0 : Nat) (FR : Fr) (hS : H) (kvl : List (V × V)) (DS : List Deferred) (ρ0 : Rho) (h0 : H) (w0 : World)
  (L : Array Bool) (cr : List (Nat × List Nat)) (lq : Option (Nat × List Nat)) (ρ : Rho) (h : H) (w : World) (a : Act) : Prop where
 size : L.size = ops.size
 tail : ∀ i, n0 ≤ i → i < ops.size → L.getD i true = false
 cs : ∃ p, cs = p ++ cr ∧ (∀ x ∈ p, L.getD x.1 false = true) ∧ ∀ x ∈ cr, L.getD x.1 true = false
 sat : Sat E ρ h w
 ext : Ext ρ0 h0 w0 ρ h w
 keep : Keep hS h
 hn : hS.n.toNat ≤ h.n.toNat
 fr : ∀ t v, FR.get (keyOf t) = some v → t ≠ dq → (∀ j o, j < n0 → ops[j]? = some o → o.dst = some t → L.getD j false = true) → a.tmps[t]? = some (v.γ E ρ) ∧ v.bd h.n.toNat
 sz : N ≤ a.tmps.size
 df : a.defers = DS
 mp : MapInv E q dq ins kvl w0 L lq ρ h w a
theorem getD_b {L : Array Bool} {i : Nat} (h : i < L.size) : L.getD i true = L.getD i false := by simp [h]
theorem put_get {a : Act} {d : Option Tmp} {v : Value} {t : Nat} (ht : d ≠ some t) : (a.put d v).tmps[t]? = a.tmps[t]? := by
 cases d with
 | none => rfl
 | some d =>
  show (a.tmps.setIfInBounds d v)[t]? = _
  rw [Array.getElem?_setIfInBounds, if_neg (fun e => ht (by rw [e]))]
theorem put_get_same {a : Act} {v : Value} {t : Nat} (ht : t < a.tmps.size) : (a.put (some t) v).tmps[t]? = some v := by
 show (a.tmps.setIfInBounds t v)[t]? = _
 rw [Array.getElem?_setIfInBounds, if_pos rfl, if_pos ht]
theorem put_size {a : Act} {d : Option Tmp} {v : Value} : (a.put d v).tmps.size = a.tmps.size := by cases d <;> simp [Act.put]
theorem put_df {a : Act} {d : Option Tmp} {v : Value} : (a.put d v).defers = a.defers := by cases d <;> rfl
section
variable {ops : Array Oper} {qs cs : List (Nat × List Nat)} {q dq : Nat} {ins : List (Nat × List Nat)} {ty : TypeId} {n0 : Nat} {FR : Fr} {hS : H} {kvl : List (V × V)} {DS : List Deferred} {ρ0 : Rho} {h0 : H} {w0 : World}
 {L : Array Bool} {cr : List (Nat × List Nat)} {lq : Option (Nat × List Nat)} {ρ : Rho} {h : H} {w : World} {a : Act}
theorem MInv.slots (st : MapSt ops qs cs q dq ins ty n0) (iv : MInv E N ops cs q dq ins n0 FR hS kvl DS ρ0 h0 w0 L cr lq ρ h w a) {x : Nat × List Nat} (hx : x ∈ qs ++ (cs ++ ins)) (hr : x.1 ∈ Region.ready .any ops L) : FrAt E ρ h.n.toNat FR a.tmps x.2 := by
 intro t ht v hv
 obtain ⟨h1, h2⟩ := st.sl x hx t ht
 exact iv.fr t v hv h1 fun j o hj ho hd => EvQ.ready_edges hr j (h2 j o ho hd)
theorem MInv.make (st : MapSt ops qs cs q dq ins ty n0) (iv : MInv E N ops cs q dq ins n0 FR hS kvl DS ρ0 h0 w0 L cr none ρ h w a) (hqc : ∀ x ∈ cs, x.1 ≠ q) (hqi : ∀ x ∈ ins, x.1 ≠ q) (hdq : dq < a.tmps.size) {oq : Oper} (hoq : ops[q]? = some oq) (hoqd : oq.dst = some dq) :
  MInv E N ops cs q dq ins n0 FR hS kvl DS ρ0 h0 w0 (L.setIfInBounds q true) cr (some (w.heap.size, [])) ρ h (w.alloc (.map #[] 0)) (a.put (some dq) (.map (some w.heap.size))) := by
 obtain ⟨m1, m2⟩ := iv.mp
 have hqn : q < L.size := by rw [iv.size]; exact Nat.lt_of_lt_of_le st.q0 st.le
 obtain ⟨p, c1, c2, c3⟩ := iv.cs
 have hne : ∀ t, t ≠ dq → (some dq : Option Tmp) ≠ some t := fun t h e => h (by cases e; rfl)
 refine ⟨by simpa using iv.size, fun j g1 g2 => ?_, ⟨p, c1, fun x hx => ?_, fun x hx => ?_⟩, satq_alloc iv.sat _, iv.ext.trans (extq_alloc iv.sat _), iv.keep, iv.hn, fun t u hu hne' hall => ?_, by rw [put_size]; exact iv.sz, by rw [put_df]; exact iv.df, ?_⟩
 ·have := st.q0
  rw [getD_set_ne true (show q ≠ j by omega)]; exact iv.tail j g1 g2
 ·rw [getD_set_ne false (fun e => hqc x (by rw [c1]; exact List.mem_append_left _ hx) e.symm)]; exact c2 x hx
 ·rw [getD_set_ne true (fun e => hqc x (by rw [c1]; exact List.mem_append_right _ hx) e.symm)]; exact c3 x hx
 ·rw [put_get (hne t hne')]
  refine iv.fr t u hu hne' fun j o hj ho hd => ?_
  have := hall j o hj ho hd
  by_cases e : q = j
  ·subst e
   rw [hoq] at ho; cases ho
   rw [hoqd] at hd
   exact absurd hd (hne t hne')
  ·rwa [getD_set_ne false e] at this
 ·refine ⟨?_, put_get_same hdq, iv.ext.size, fun p o hp hl => ?_, List.nodup_nil, fun n hn => (by cases hn), fun n x hx => ?_, fun n hn => (by cases hn), #[], ?_, rfl, fun i e he => (by simp at he)⟩
  ·have := getD_b (L := L.setIfInBounds q true) (i := q) (by simpa using hqn)
   rw [← this]
   simp [Array.getD_eq_getD_getElem?, Array.getElem?_setIfInBounds, hqn]
  ·have := iv.sat.lt E hp hl
   omega
  ·have hx' := List.mem_of_getElem? hx
   have hxn := st.lt x (by simp [hx'])
   rw [getD_set_ne false (fun e => hqi x hx' e.symm)]
   have := m2 x hx'
   rw [getD_b (by rw [iv.size]; exact Nat.lt_of_lt_of_le hxn st.le)] at this
   rw [this]
   simp
  ·show (w.alloc (.map #[] 0)).heap[w.heap.size]? = _
   rw [heap_alloc, Array.getElem?_push, if_pos rfl]
   rfl
end
end Go.Ev
end
/-
 Kept things in the first part of a region; the rest waits for all of it.
-/
set_option linter.unusedSimpArgs false
set_option linter.unusedVariables false
noncomputable section
namespace Go.Ev
open Go
variable {E : Env} {P : Program} {N : Nat}
end Go.Ev
end
/-
 Code, to the end.
-/
set_option linter.unusedSimpArgs false
set_option linter.unusedVariables false
noncomputable section
namespace Go.Ev
open Go
variable {E : Env} {P : Program} {N : Nat}
theorem bad_ne {g : Ctx} {fr : Fr} {h : H} {fa : Fa} {k : K2} (hk : codeT .bad g fr h fa k = 0) : False := err_ne _ _ hk
theorem codeT_run {Y : Ty} (hY : TyOk P Y) (hm : P.follows .mixedOrders = true) {dr : Nat → Option Dr} {g : Ctx} (hcall : CallOk E P g.call) : ∀ (c : Code) (fr : Fr) (h : H) (fa : Fa) (k : K2), drawB dr c = true → FaOk E fa →
  codeT (cCode Y N dr c) g fr h fa k = 0 → Runs E P N c fr h k
 | .skip, fr, h, fa, k, hB, hfa, hk => ⟨.normal, fr, h, fa, hk, hfa, fun {DS} ρ w a QQ hs hf hN hd hQ => wp_skip (hQ _ _ ⟨ρ, hf, hN, hd, hs, hs.refl E⟩)⟩
 | .ret, fr, h, fa, k, hB, hfa, hk => ⟨.ret, fr, h, fa, hk, hfa, fun {DS} ρ w a QQ hs hf hN hd hQ => wp_ret (hQ _ _ ⟨ρ, hf, hN, hd, hs, hs.refl E⟩)⟩
 | .exit i, fr, h, fa, k, hB, hfa, hk => ⟨.exit i, fr, h, fa, hk, hfa, fun {DS} ρ w a QQ hs hf hN hd hQ => wp_exit (hQ _ _ ⟨ρ, hf, hN, hd, hs, hs.refl E⟩)⟩
 | .label i, fr, h, fa, k, hB, hfa, hk => ⟨.normal, fr, h, fa, hk, hfa, fun {DS} ρ w a QQ hs hf hN hd hQ => wp_label (hQ _ _ ⟨ρ, hf, hN, hd, hs, hs.refl E⟩)⟩
 | .seq x y, fr, h, fa, k, hB, hfa, hk => by
  simp only [drawB, Bool.and_eq_true] at hB
  have hk : codeT (cCode Y N dr x) g fr h fa (fun e fr h fa => aeGo e (codeT (cCode Y N dr y) g fr h fa k) (k .ret fr h fa) (fun i => k (.exit i) fr h fa)) = 0 := hk
  obtain ⟨ae, fr1, h1, fa1, hk1, hfa1, r1⟩ := codeT_run hY hm hcall x fr h fa _ hB.1 hfa hk
  cases ae with
  | normal =>
   obtain ⟨ae, fr2, h2, fa2, hk2, hfa2, r2⟩ := codeT_run hY hm hcall y fr1 h1 fa1 k hB.2 hfa1 hk1
   refine ⟨ae, fr2, h2, fa2, hk2, hfa2, fun {DS} ρ w a QQ hs hf hN hd hQ => wp_seq (r1 ρ w a _ hs hf hN hd ?_)⟩
   rintro a1 w1 ⟨ρ1, f1, n1, d1, s1, x1⟩
   exact r2 ρ1 w1 a1 QQ s1 f1 n1 d1 fun a' w' hA => hQ a' w' (hA.trans x1)
  | ret => exact ⟨.ret, fr1, h1, fa1, hk1, hfa1, fun {DS} ρ w a QQ hs hf hN hd hQ => wp_seq (r1 ρ w a _ hs hf hN hd hQ)⟩
  | exit i => exact ⟨.exit i, fr1, h1, fa1, hk1, hfa1, fun {DS} ρ w a QQ hs hf hN hd hQ => wp_seq (r1 ρ w a _ hs hf hN hd hQ)⟩
 | .cond o x y, fr, h, fa, k, hB, hfa, hk => by
  simp only [drawB, Bool.and_eq_true] at hB
  cases o with
  | tmp t =>
   have hk : way fa (fr.get (keyOf t)) (fun b fa => bc b (codeT (cCode Y N dr x) g fr h fa k) (codeT (cCode Y N dr y) g fr h fa k)) (err g 44) = 0 := hk
   obtain ⟨v, b, fa', hv, hb, hfa', hk⟩ := way_ok hk (err_ne _ _) hfa (fun _ => ⟨0, 0⟩)
   have hev : ∀ ρ n (a : Act), FrOk E ρ n fr a.tmps → a.eval (.tmp t) = .bool b := by
    intro ρ n a hf
    have h1 := (hf t v hv).1
    have h2 : v.γ E ρ = .bool b := by cases v <;> simp [V.γ] at hb ⊢ <;> exact hb
    simp [Act.eval, h1, h2]
   cases b with
   | true =>
    obtain ⟨ae, fr1, h1, fa1, hk1, hfa1, r1⟩ := codeT_run hY hm hcall x fr h fa' k hB.1 hfa' hk
    exact ⟨ae, fr1, h1, fa1, hk1, hfa1, fun {DS} ρ w a QQ hs hf hN hd hQ => wp_cond_true (hev ρ _ a hf) (r1 ρ w a QQ hs hf hN hd hQ)⟩
   | false =>
    obtain ⟨ae, fr1, h1, fa1, hk1, hfa1, r1⟩ := codeT_run hY hm hcall y fr h fa' k hB.2 hfa' hk
    exact ⟨ae, fr1, h1, fa1, hk1, hfa1, fun {DS} ρ w a QQ hs hf hN hd hQ => wp_cond_false (hev ρ _ a hf) (r1 ρ w a QQ hs hf hN hd hQ)⟩
  | _ => exact (bad_ne hk).elim
 | .block i x, fr, h, fa, k, hB, hfa, hk => by
  simp only [drawB] at hB
  have hk : codeT (cCode Y N dr x) g fr h fa (fun e fr h fa => aeGo e (k .normal fr h fa) (k .ret fr h fa) (fun j => bc (Nat.beq j i) (k .normal fr h fa) (k (.exit j) fr h fa))) = 0 := hk
  obtain ⟨ae, fr1, h1, fa1, hk1, hfa1, r1⟩ := codeT_run hY hm hcall x fr h fa _ hB hfa hk
  cases ae with
  | normal => exact ⟨.normal, fr1, h1, fa1, hk1, hfa1, fun {DS} ρ w a QQ hs hf hN hd hQ => wp_block (r1 ρ w a _ hs hf hN hd hQ)⟩
  | ret => exact ⟨.ret, fr1, h1, fa1, hk1, hfa1, fun {DS} ρ w a QQ hs hf hN hd hQ => wp_block (r1 ρ w a _ hs hf hN hd hQ)⟩
  | exit j =>
   have hk2 : bc (Nat.beq j i) (k .normal fr1 h1 fa1) (k (.exit j) fr1 h1 fa1) = 0 := hk1
   clear hk1
   cases hj : Nat.beq j i with
   | true =>
    rw [hj] at hk2
    have hj : j = i := by simpa using hj
    subst hj
    refine ⟨.normal, fr1, h1, fa1, hk2, hfa1, fun {DS} ρ w a QQ hs hf hN hd hQ => wp_block (r1 ρ w a _ hs hf hN hd fun a' w' hA => ?_)⟩
    show Exit.inBlock j _ (.exit j) a' w'
    simp only [Exit.inBlock, if_true]
    exact hQ a' w' hA
   | false =>
    rw [hj] at hk2
    have hj : ¬ j = i := by
     intro e; subst e; simp at hj
    refine ⟨.exit j, fr1, h1, fa1, hk2, hfa1, fun {DS} ρ w a QQ hs hf hN hd hQ => wp_block (r1 ρ w a _ hs hf hN hd fun a' w' hA => ?_)⟩
    show Exit.inBlock i _ (.exit j) a' w'
    simp only [Exit.inBlock, hj, if_false]
    exact hQ a' w' hA
 | .loop x, fr, h, fa, k, hB, hfa, hk => by
  simp only [drawB] at hB
  have key : ∀ n fr h fa, FaOk E fa → loopN (codeT (cCode Y N dr x)) n g fr h fa k = 0 → ∃ ae fr' h' fa', k ae fr' h' fa' = 0 ∧ FaOk E fa' ∧ ∀ {DS : List Deferred} ρ w a QQ, Sat E ρ h w → FrOk E ρ h.n.toNat fr (a : Act).tmps → N ≤ a.tmps.size → a.defers = DS →
    (∀ a' w', At E N DS ρ h w fr' h' a' w' → QQ (AE.exit' ae) a' w') → Code.rounds P x QQ n a w := by
   intro n
   induction n with
   | zero => intro fr h fa hfa hk; exact absurd hk (err_ne _ _)
   | succ n ih =>
    intro fr h fa hfa hk
    have hk : codeT (cCode Y N dr x) g fr h fa (fun e fr h fa => aeGo e (loopN (codeT (cCode Y N dr x)) n g fr h fa k) (k .ret fr h fa) (fun i => k (.exit i) fr h fa)) = 0 := hk
    obtain ⟨ae, fr1, h1, fa1, hk1, hfa1, r1⟩ := codeT_run hY hm hcall x fr h fa _ hB hfa hk
    cases ae with
    | normal =>
     obtain ⟨ae, fr2, h2, fa2, hk2, hfa2, r2⟩ := ih fr1 h1 fa1 hfa1 hk1
     refine ⟨ae, fr2, h2, fa2, hk2, hfa2, fun {DS} ρ w a QQ hs hf hN hd hQ => ?_⟩
     rw [rounds_succ]
     refine r1 ρ w a _ hs hf hN hd ?_
     rintro a1 w1 ⟨ρ1, f1, n1, d1, s1, x1⟩
     exact r2 ρ1 w1 a1 QQ s1 f1 n1 d1 fun a' w' hA => hQ a' w' (hA.trans x1)
    | ret => exact ⟨.ret, fr1, h1, fa1, hk1, hfa1, fun {DS} ρ w a QQ hs hf hN hd hQ => (by rw [rounds_succ]; exact r1 ρ w a _ hs hf hN hd hQ)⟩
    | exit i => exact ⟨.exit i, fr1, h1, fa1, hk1, hfa1, fun {DS} ρ w a QQ hs hf hN hd hQ => (by rw [rounds_succ]; exact r1 ρ w a _ hs hf hN hd hQ)⟩
  obtain ⟨ae, fr2, h2, fa2, hk2, hfa2, r2⟩ := key g.fuel fr h fa hfa hk
  exact ⟨ae, fr2, h2, fa2, hk2, hfa2, fun {DS} ρ w a QQ hs hf hN hd hQ => wp_loop_rounds _ (r2 ρ w a QQ hs hf hN hd hQ)⟩
 | .scope x, fr, h, fa, k, hB, hfa, hk => by
  simp only [drawB] at hB
  obtain ⟨ae, fr1, h1, fa1, hk1, hfa1, r1⟩ := codeT_run hY hm hcall x fr h fa k hB hfa hk
  exact ⟨ae, fr1, h1, fa1, hk1, hfa1, fun {DS} ρ w a QQ hs hf hN hd hQ => wp_scope_straight (r1 ρ w a _ hs hf hN hd (by cases ae <;> exact hQ))⟩
 | .region id ops false, fr, h, fa, k, hB, hfa, hk => by
  simp only [cCode] at hk
  split at hk
  ·rename_i l hl
   obtain ⟨fr2, h2', fa2, hk2, hfa2, ho⟩ := opsT_run hY hcall _ _ fr h fa hl hfa (show opsT l g fr h fa (fun fr h fa => k .normal fr h fa) = 0 from hk)
   exact ⟨.normal, fr2, h2', fa2, hk2, hfa2, fun {DS} ρ w a QQ hs hf hN hd hQ => wp_region_list (ho ρ w a QQ hs hf hN hd hQ)⟩
  ·exact (bad_ne hk).elim
 | .region id ops true, fr, h, fa, k, hB, hfa, hk => by
  simp only [drawB] at hB
  simp only [cCode] at hk
  split at hk
  ·rename_i bs ord hdr
   rw [hdr] at hB
   split at hk
   ·rename_i l hl
    exact held_run hY hm hcall hB hl hfa hk
   ·exact (bad_ne hk).elim
  ·rename_i bs ord tl hdr
   rw [hdr] at hB
   split at hk
   ·rename_i l t hl ht
    exact hold2_run hY hm hcall hB hl ht hfa hk
   ·exact (bad_ne hk).elim
  ·rename_i ks ord hdr
   rw [hdr] at hB
   split at hk
   ·rename_i l hl
    exact Bool.noConfusion (show false = true from hB)
   ·exact (bad_ne hk).elim
  ·rename_i ks ord tl hdr
   rw [hdr] at hB
   split at hk
   ·rename_i l t hl ht
    exact Bool.noConfusion (show false = true from hB)
   ·exact (bad_ne hk).elim
  ·rename_i ks ord q tl hdr
   rw [hdr] at hB
   split at hk
   ·rename_i l hl
    exact Bool.noConfusion (show false = true from hB)
   ·exact (bad_ne hk).elim
  ·rename_i ks ord qs cs q ins n0 hdr
   rw [hdr] at hB
   split at hk
   ·rename_i pre qs' cs' dq ins' t' h1 h2 h3 h4 h5 h6
    split at hk
    ·rename_i hdN
     exact Bool.noConfusion (show false = true from hB)
    ·exact (bad_ne hk).elim
   ·exact (bad_ne hk).elim
  ·rename_i bs ord ch q tl hdr
   rw [hdr] at hB
   split at hk
   ·rename_i l c aq t hl hc haq ht
    exact Bool.noConfusion (show false = true from hB)
   ·exact (bad_ne hk).elim
  ·rename_i n bs ord hdr
   rw [hdr] at hB
   split at hk
   ·rename_i hd l hhd hl
    exact mix_run hY hm hcall hB hhd hl hfa hk
   ·exact (bad_ne hk).elim
  ·rename_i d tl hdr
   rw [hdr] at hB
   split at hk
   ·rename_i hd hhd
    split at hk
    ·rename_i o ho
     rw [nth_eq, Array.getElem?_toList] at ho
     split at hk
     ·rename_i i r hi hr
      exact two_run hY hm hcall ho hB hhd hi hr hfa hk
     ·exact (bad_ne hk).elim
    ·rename_i hne
     split at hk
     ·rename_i t ht
      rw [pickA_eq] at ht
      refine tail_run hY hm hcall hB hhd ht (fun e => ?_) hfa hk
      subst e
      rcases Nat.lt_or_ge d ops.size with h1 | h1
      ·exact (hne ops[d] rfl (by rw [nth_eq]; simp [h1])).elim
      ·exact h1
     ·exact (bad_ne hk).elim
   ·exact (bad_ne hk).elim
  ·exact (bad_ne hk).elim
 | .rangeFunc f ps x y, fr, h, fa, k, hB, hfa, hk => (bad_ne hk).elim
 | .goto l, fr, h, fa, k, hB, hfa, hk => (bad_ne hk).elim
 | .refuse s, fr, h, fa, k, hB, hfa, hk => (bad_ne hk).elim
end Go.Ev
end
/-
 Calls: the evaluator is right.
-/
set_option linter.unusedSimpArgs false
set_option linter.unusedVariables false
noncomputable section
namespace Go.Ev
open Go
variable {E : Env} {P : Program} {N : Nat}
def resS (tmps : Array Value) : ResultVar → Sem Value
 | .tmp t => pure (tmps.getD t undef)
 | .cell a t => do loadVar t (← asAddr (tmps.getD a undef))
def ROk (P : Program) (r : ResultVar) (x : IR) : Prop := ∀ (E : Env) (ρ : Rho) (fr : Fr) (h : H) (w : World) (tmps : Array Value) (v : V), Sat E ρ h w → FrOk E ρ h.n.toNat fr tmps → resV fr h x = some v → (resS tmps r).run P w = .ok (v.γ E ρ) w ∧ v.bd h.n.toNat
theorem ocO_some {α β : Type} {x : Option α} {f : α → Option β} {v : β} (h : oc x f none = some v) : ∃ a, x = some a ∧ f a = some v := by
 cases x with
 | none => cases h
 | some a => exact ⟨a, rfl, h⟩
theorem vPtrO_some {β : Type} {x : Option V} {f : Ev.P → Nat → Option β} {v : β} (h : vPtr x f none = some v) : ∃ id off, x = some (.ptr id off) ∧ f id off = some v := by
 unfold vPtr at h
 split at h
 ·exact ⟨_, _, rfl, h⟩
 ·cases h
theorem cells_load {ρ : Rho} {h : H} {w : World} (hs : Sat E ρ h w) {id : Ev.P} {o : O} (ho : h.t.get id = some o) {off : Nat} {v : V} (hc : cellAt o off = some v) :
  ∃ cs t, w.heap[(ρ id).b]? = some (.cells cs t (0, 0)) ∧ cs[off]? = some (v.γ E ρ) ∧ v.bd h.n.toNat := by
 obtain ⟨cs, tt, hb, hcell⟩ := O.block (hs.obj id o ho) (hs.bd id o ho).2 (cellAt_own hc)
 obtain ⟨h1, h2⟩ := hcell off v hc
 exact ⟨cs, tt, hb, h1, h2⟩
theorem initFr_eq : ∀ (l : List V) (i : Nat) (fr : Fr) (k : Fr → Nat), lRec initN initC l i fr k = 0 → ∃ fr', k fr' = 0 ∧ ∀ q v, fr'.get q = some v → fr.get q = some v ∨ ∃ j, q = keyOf (i + j) ∧ l[j]? = some v
 | [], i, fr, k, hk => ⟨fr, hk, fun q v h => .inl h⟩
 | x :: r, i, fr, k, hk => by
  have hk : setF (keyOf i) fr x (fun fr => lRec initN initC r (Nat.succ i) fr k) = 0 := hk
  obtain ⟨fr1, hk, g1, g2⟩ := setF_ok hk
  obtain ⟨fr', h1, h2⟩ := initFr_eq r (i + 1) fr1 k hk
  refine ⟨fr', h1, fun q v hv => ?_⟩
  rcases h2 q v hv with h3 | ⟨j, h3, h4⟩
  ·by_cases hq : q = keyOf i
   ·rw [hq, g1] at h3
    exact .inr ⟨0, hq, by simpa using h3⟩
   ·rw [g2 q hq] at h3
    exact .inl h3
  ·exact .inr ⟨j + 1, by rw [h3]; congr 1; omega, by simpa using h4⟩
theorem initFr_ok {l : List V} {k : Fr → Nat} (hk : initFr l k = 0) : ∃ fr, k fr = 0 ∧ ∀ t v, fr.get (keyOf t) = some v → l[t]? = some v := by
 obtain ⟨fr, h1, h2⟩ := initFr_eq l 0 .e k hk
 refine ⟨fr, h1, fun t v hv => ?_⟩
 rcases h2 _ v hv with h3 | ⟨j, h3, h4⟩
 ·rw [Fr.get_e] at h3; simp at h3
 ·have := key_inj h3
  have : t = j := by omega
  subst this; exact h4
theorem res1_run {Y : Ty} (hY : TyOk P Y) {r : ResultVar} {rs : List ResultVar} {l : List IR} (h : cRes Y (r :: rs) = some l) : ∃ x l', l = x :: l' ∧ cRes Y rs = some l' ∧ ROk P r x := by
 simp only [cRes] at h
 split at h
 rotate_left
 ·simp at h
 rename_i l' hl'
 split at h
 ·rename_i t
  simp at h; subst h
  refine ⟨_, _, rfl, hl', fun E ρ fr h w tmps v hs hf hv => ?_⟩
  obtain ⟨h1, h2⟩ := hf t v hv
  exact ⟨by simp [resS, h1], h2⟩
 ·rename_i a t
  have one : (∃ d, P.underlying t = some d ∧ isAggD d = false) → ROk P (.cell a t) (.c1 (keyOf a)) := by
   rintro ⟨d, hu, hd⟩ E ρ fr h w tmps v hs hf hv
   obtain ⟨id, off, hp, hv⟩ := vPtrO_some (show vPtr (fr.get (keyOf a)) (fun id off => oc (hget h id) (fun o => cellAt o off) none) none = some v from hv)
   obtain ⟨o, ho, hv⟩ := ocO_some hv
   rw [hget_eq] at ho
   obtain ⟨h1, h2⟩ := hf a _ hp
   obtain ⟨cs, tt, hb, hcell, hbd⟩ := cells_load hs ho hv
   refine ⟨?_, hbd⟩
   have := loadVar_one (P := P) (w := w) hu hd (b := (ρ id).b) (o := off) (v := v.γ E ρ) (by rw [cell_at hb]; exact hcell)
   simp [resS, h1, V.γ, asAddr, this]
  have many : isTy P t = true → aggP P t = true → ∀ m, m = sizeP P t → ROk P (.cell a t) (.cn m (keyOf a)) := by
   intro hty hg m hm E ρ fr h w tmps v hs hf hv
   obtain ⟨id, off, hp, hv⟩ := vPtrO_some (show vPtr (fr.get (keyOf a)) (fun id off => oc (hget h id) (fun o => (loadN o off m).map .agg) none) none = some v from hv)
   obtain ⟨o, ho, hv⟩ := ocO_some hv
   rw [hget_eq] at ho
   obtain ⟨l, hl, rfl⟩ := Option.map_eq_some_iff.1 hv
   obtain ⟨h1, h2⟩ := hf a _ hp
   obtain ⟨hlen, hbd, hcell⟩ := load_cells hs ho hl
   refine ⟨?_, hbd⟩
   obtain ⟨g1, g2⟩ := isTy_run (w := w) hty
   have hl2 := run_loadCells_list (P := P) w ⟨(ρ id).b, off, none⟩ (γL E ρ l) hcell
   rw [γL_length, hlen, hm] at hl2
   have : (loadVar t ⟨(ρ id).b, off, none⟩).run P w = .ok (.agg (γL E ρ l).toArray) w := by
    unfold loadVar
    simp [g2, hg, g1, hl2]
   simp [resS, h1, V.γ, asAddr, this]
  split at h
  ·rename_i z k ht
   simp at h; subst h
   obtain ⟨d, hu, hd, _⟩ := ti_scal hY.ti ht
   exact ⟨_, _, rfl, hl', one ⟨d, hu, hd⟩⟩
  ·rename_i ht
   simp at h; subst h
   obtain ⟨hu, _⟩ := ti_slc hY.ti ht
   exact ⟨_, _, rfl, hl', one ⟨_, hu, rfl⟩⟩
  ·rename_i fs z ht
   simp at h; subst h
   obtain ⟨fl, hu, _, _, hty, hsz, hg⟩ := ti_str hY.ti ht
   exact ⟨_, _, rfl, hl', many hty hg _ (by rw [len_eq]; exact hsz)⟩
  ·rename_i n1 e1 s1 g1 z ht
   simp at h; subst h
   obtain ⟨hu, _, _, _, hty, hsz, hg⟩ := ti_arr hY.ti ht
   exact ⟨_, _, rfl, hl', many hty hg _ (by rw [len_eq]; exact hsz)⟩
  ·simp at h
theorem resVs_run {Y : Ty} (hY : TyOk P Y) : ∀ {rs : List ResultVar} {l : List IR}, cRes Y rs = some l → ∀ (E : Env) (ρ : Rho) (fr : Fr) (h : H) (w : World) (tmps : Array Value) (vs : List V), Sat E ρ h w → FrOk E ρ h.n.toNat fr tmps → resVs fr h l = some vs →
  (rs.mapM (resS tmps)).run P w = .ok (γL E ρ vs) w ∧ bdL h.n.toNat vs
 | [], l, hl, E, ρ, fr, h, w, tmps, vs, hs, hf, hv => by
  simp [cRes] at hl; subst hl
  have hv : some [] = some vs := hv
  cases hv
  exact ⟨by simp [γL], trivial⟩
 | r :: rs, l, hl, E, ρ, fr, h, w, tmps, vs, hs, hf, hv => by
  obtain ⟨x, l', rfl, hl', hx⟩ := res1_run hY hl
  have hv : oc (resV fr h x) (fun a => oc (resVs fr h l') (fun b => some (a :: b)) none) none = some vs := hv
  obtain ⟨a, ha, hv⟩ := ocO_some hv
  obtain ⟨b, hb, hv⟩ := ocO_some hv
  cases hv
  obtain ⟨e1, b1⟩ := hx E ρ fr h w tmps a hs hf ha
  obtain ⟨e2, b2⟩ := resVs_run hY hl' E ρ fr h w tmps b hs hf hb
  refine ⟨?_, b1, b2⟩
  rw [List.mapM_cons, Sem.run_bind, e1]
  simp only [Result.andThen_ok, Sem.run_bind, e2, Sem.run_pure, γL]
theorem results_run {Y : Ty} (hY : TyOk P Y) {fn : Func} {l : List IR} (hl : cRes Y fn.results.toList = some l) {ρ : Rho} {fr : Fr} {h : H} {w : World} {tmps : Array Value} {vs : List V} (hs : Sat E ρ h w) (hf : FrOk E ρ h.n.toNat fr tmps) (hv : resVs fr h l = some vs) :
  (results fn tmps).run P w = .ok (if h : (γL E ρ vs).toArray.size = 1 then (γL E ρ vs).toArray[0] else .tuple (γL E ρ vs).toArray) w ∧ bdL h.n.toNat vs := by
 obtain ⟨h1, h2⟩ := resVs_run hY hl E ρ fr h w tmps vs hs hf hv
 refine ⟨?_, h2⟩
 have e0 : results fn tmps = (do
   let vs ← fn.results.mapM (resS tmps)
   pure (if h : vs.size = 1 then vs[0] else .tuple vs)) := rfl
 rw [e0, Sem.run_bind, Array.mapM_eq_mapM_toList, Sem.run_map, h1]
 rfl
structure CxOk (E : Env) (P : Program) (Y : Ty) (C : Cx) : Prop where
 ty : TyOk P Y
 mixed : P.follows .mixedOrders = true
 fn : ∀ F i, C.fn F = some i → ∃ (f : Func) (dr : Nat → Option Dr), P.funcs[F]? = some f ∧ Callable P F ∧ cFn Y dr f = some i ∧ (∀ c, f.body = some c → drawB dr c = true)
 hook : ∀ F s, C.hook F = some s → CallOk E P (fun G l h fa k => bc (Nat.beq G F) (s l h fa k) 1)
theorem callS_run {Y : Ty} {C : Cx} (hC : CxOk E P Y C) (n : Nat) {inner : CallT} (ih : CallOk E P inner) : CallOk E P (callS C n inner) := by
  intro F l h fa k hk hfa
  have hk : oc (C.hook F) (fun s => s l h fa k) (oc (C.fn F) (fun f => callF C inner F f l h fa k) (Nat.succ (Nat.add (Nat.mul F 100) 51))) = 0 := hk
  cases hS : C.hook F with
  | some s =>
   rw [hS] at hk
   exact hC.hook F s hS F l h fa k (by simp [bc_eq]; exact hk) hfa
  | none =>
   rw [hS] at hk
   cases hF : C.fn F with
   | none => rw [hF] at hk; exact absurd (show Nat.succ _ = 0 from hk) (by simp)
   | some i =>
    rw [hF] at hk
    have hk : callF C inner F i l h fa k = 0 := hk
    obtain ⟨f, dr, hfn, hca, hcf, hdr⟩ := hC.fn F i hF
    refine ⟨hca, ?_⟩
    unfold cFn at hcf
    split at hcf
    rotate_left
    ·simp at hcf
    rename_i c rs hc hrs
    simp at hcf; subst hcf
    obtain ⟨fr, hk, hfr⟩ := initFr_ok hk
    obtain ⟨ae, fr1, h1, fa1, hk1, hfa1, hrun⟩ := codeT_run hC.ty hC.mixed (g := ⟨inner, F, C.fuel⟩) ih c fr h fa _ (hdr c hc) hfa hk
    have fin : (AE.exit' ae = .normal ∨ AE.exit' ae = .ret) → resT rs fr1 h1 (fun v => k v h1 fa1) (Nat.succ (Nat.add (Nat.mul F 100) 49)) = 0 → ∃ v h' fa', k v h' fa' = 0 ∧ FaOk E fa' ∧
      ∀ ρ w, bdL h.n.toNat l → Sat E ρ h w → Calls P F (γL E ρ l).toArray w fun e w' => ∃ ρ', e = .returned (v.γ E ρ') ∧ Sat E ρ' h' w' ∧ Ext ρ h w ρ' h' w' ∧ v.bd h'.n.toNat := by
     intro hae hr
     obtain ⟨vs, hvs, hr⟩ := oc_ok (show oc (resVs fr1 h1 rs) _ _ = 0 from hr) (by simp)
     have hv : ∃ v, k v h1 fa1 = 0 ∧ (∀ n, bdL n vs → v.bd n) ∧ ∀ ρ, (if h : (γL E ρ vs).toArray.size = 1 then (γL E ρ vs).toArray[0] else .tuple (γL E ρ vs).toArray) = v.γ E ρ := by
      match vs, hr with
      | [], hr => exact ⟨.tup [], hr, fun n hn => hn, fun ρ => rfl⟩
      | [x], hr => exact ⟨x, hr, fun n hn => hn.1, fun ρ => by simp [γL]⟩
      | x :: y :: r, hr => exact ⟨.tup (x :: y :: r), hr, fun n hn => hn, fun ρ => by simp [γL, V.γ]⟩
     obtain ⟨v, hkv, hvb, hvγ⟩ := hv
     refine ⟨v, h1, fa1, hkv, hfa1, fun ρ w hb hs => ?_⟩
     refine calls_of_wp hfn hc ?_
     ·have hf : FrOk E ρ h.n.toNat fr ((γL E ρ l).toArray ++ Array.replicate (f.ntmps - (γL E ρ l).toArray.size) undef) := by
       intro t v hv
       have h2 := hfr t v hv
       have ht : t < l.length := (List.getElem?_eq_some_iff.1 h2).1
       refine ⟨?_, (bdL_eq _ l).1 hb v (List.mem_of_getElem? h2)⟩
       rw [Array.getElem?_append_left (by simp [γL_length]; exact ht)]
       simp [γL_get, h2]
      refine hrun ρ w { tmps := (γL E ρ l).toArray ++ Array.replicate (f.ntmps - (γL E ρ l).toArray.size) undef, defers := [] } _ hs hf (by simp [γL_length]; omega) rfl ?_
      rintro a1 w1 ⟨ρ1, f1, n1, d1, s1, x1⟩
      obtain ⟨e1, b1⟩ := results_run hC.ty hrs s1 f1 hvs
      rw [hvγ] at e1
      have : bodyPost P f (fun e w' => ∃ ρ', e = .returned (v.γ E ρ') ∧ Sat E ρ' h1 w' ∧ Ext ρ h w ρ' h1 w' ∧ v.bd h1.n.toNat) .ret a1 w1 := ⟨d1, _, e1, ρ1, rfl, s1, x1, hvb _ b1⟩
      rcases hae with h | h <;> rw [h] <;> exact this
    cases ae with
    | normal => exact fin (.inl rfl) hk1
    | ret => exact fin (.inr rfl) hk1
    | exit i => exact absurd (show Nat.succ _ = 0 from hk1) (by simp)
theorem callT_run {Y : Ty} {C : Cx} (hC : CxOk E P Y C) : ∀ n, CallOk E P (callT C n) := by
 intro n
 induction n with
 | zero => intro F l h fa k hk; exact absurd (show Nat.succ _ = 0 from hk) (by simp)
 | succ n ih => exact callS_run hC n ih
end Go.Ev
end
/-
 Comparing structs and arrays: what is said of it is so.
-/
set_option linter.unusedSimpArgs false
set_option linter.unusedVariables false
noncomputable section
namespace Go.Ev
open Go
variable {E : Env} {P : Program}
theorem combB_and (c c' : Option SB) (b b' : Bool) : combB E (andO c c') (match b, b' with | true, true => true | _, _ => false) = (combB E c b && combB E c' b') := by
 cases c <;> cases c' <;> cases b <;> cases b' <;> simp [combB, andO, SB.den]
theorem combB_and' (c c' : Option SB) (b b' : Bool) : combB E (andO c c') (b && b') = (combB E c b && combB E c' b') := by
 cases c <;> cases c' <;> cases b <;> cases b' <;> simp [combB, andO, SB.den]
theorem eqL_cons {e : EK} {es : List EK} {xs ys : List V} {c : Option SB} {b : Bool} (h : eqL (e :: es) xs ys = some (c, b)) :
  ∃ x xs' y ys' c1 b1 c2 b2, xs = x :: xs' ∧ ys = y :: ys' ∧ eqC e x y = some (c1, b1) ∧ eqL es xs' ys' = some (c2, b2) ∧ combB E c b = (combB E c1 b1 && combB E c2 b2) := by
 cases xs with
 | nil => simp [eqL] at h
 | cons x xs =>
  cases ys with
  | nil => simp [eqL] at h
  | cons y ys =>
   simp only [eqL] at h
   split at h
   ·rename_i c1 b1 c2 b2 h1 h2
    simp only [Option.some.injEq, Prod.mk.injEq] at h
    obtain ⟨rfl, rfl⟩ := h
    exact ⟨x, xs, y, ys, c1, b1, c2, b2, rfl, rfl, h1, h2, combB_and _ _ _ _⟩
   ·simp at h
theorem eqL_nil {xs ys : List V} {c : Option SB} {b : Bool} (h : eqL [] xs ys = some (c, b)) : xs = [] ∧ ys = [] ∧ combB E c b = true := by
 cases xs <;> cases ys <;> simp [eqL] at h
 obtain ⟨rfl, rfl⟩ := h
 exact ⟨rfl, rfl, rfl⟩
theorem eqL_split : ∀ (l m : List EK) {xs ys : List V} {c : Option SB} {b : Bool}, eqL (l ++ m) xs ys = some (c, b) →
  ∃ xs1 xs2 ys1 ys2 c1 b1 c2 b2, xs = xs1 ++ xs2 ∧ ys = ys1 ++ ys2 ∧ xs1.length = l.length ∧ ys1.length = l.length ∧ eqL l xs1 ys1 = some (c1, b1) ∧ eqL m xs2 ys2 = some (c2, b2) ∧ combB E c b = (combB E c1 b1 && combB E c2 b2)
 | [], m, xs, ys, c, b, h => ⟨[], xs, [], ys, none, true, c, b, rfl, rfl, rfl, rfl, rfl, h, by simp [combB]⟩
 | e :: l, m, xs, ys, c, b, h => by
  rw [List.cons_append] at h
  cases xs with
  | nil => simp [eqL] at h
  | cons x xs =>
   cases ys with
   | nil => simp [eqL] at h
   | cons y ys =>
    simp only [eqL] at h
    split at h
    ·rename_i c1 b1 c2 b2 h1 h2
     simp only [Option.some.injEq, Prod.mk.injEq] at h
     obtain ⟨rfl, rfl⟩ := h
     obtain ⟨xs1, xs2, ys1, ys2, d1, e1, d2, e2, rfl, rfl, q1, q2, q3, q4, q5⟩ := eqL_split l m h2
     refine ⟨x :: xs1, xs2, y :: ys1, ys2, andO c1 d1, b1 && e1, d2, e2, rfl, rfl, by simp [q1], by simp [q2], ?_, q4, ?_⟩
     ·simp only [eqL, h1, q3]; cases b1 <;> cases e1 <;> rfl
     ·refine (combB_and _ _ _ _).trans ?_
      rw [combB_and', q5, Bool.and_assoc]
    ·simp at h
theorem takeA_app {α : Type} (post : List α) : ∀ xs : List α, takeA xs.length (xs ++ post) = some xs
 | [] => by cases post <;> rfl
 | x :: xs => by
  show oc (takeA xs.length (xs ++ post)) (fun l => some (x :: l)) none = _
  rw [takeA_app post xs]; rfl
def wrapV (P : Program) (t : Nat) (xs : List V) : V := if aggP P t then .agg xs else xs.headD (.b true)
theorem part_wrap {t : Nat} {pre xs post : List V} {off : Nat} (h1 : pre.length = off) (h2 : xs.length = sizeP P t) (h3 : aggP P t = false → xs.length = 1) : part (pre ++ (xs ++ post)) off (sizeP P t) (aggP P t) = some (wrapV P t xs) := by
 unfold part wrapV
 cases hg : aggP P t with
 | true =>
  have hd : dropA off (pre ++ (xs ++ post)) = xs ++ post := by rw [dropA_eq, ← h1, List.drop_left]
  rw [hd, ← h2]
  simp only [if_true]
  rw [takeA_app]; rfl
 | false =>
  simp only [Bool.false_eq_true, if_false]
  match xs, h3 hg with
  | [x], _ => rw [nth_eq, List.getElem?_append_right (by omega)]; simp [h1]
theorem aggP_of {t : Nat} {d : TypeDesc} (h : P.underlying t = some d) : aggP P t = isAggD d := by simp [aggP, h]
theorem eqC_int {k : IntKind} {x y : V} {c : Option SB} {b : Bool} (h : eqC (.int k) x y = some (c, b)) (ρ : Rho) : ∃ p q, x.γ E ρ = .int k p ∧ y.γ E ρ = .int k q ∧ combB E c b = (p == q) := by
 simp only [eqC] at h
 split at h
 ·rename_i k1 a k2 b'
  split at h
  ·rename_i hk
   simp only [Bool.and_eq_true] at hk
   obtain rfl := kEq_eq hk.1
   obtain rfl := kEq_eq hk.2
   simp at h
   obtain ⟨rfl, rfl⟩ := h
   refine ⟨a, b', rfl, rfl, ?_⟩
   simp [combB, iEq_eq]
   rfl
  ·simp at h
 ·split at h
  ·rename_i k1 a k2 b' h1 h2
   split at h
   ·rename_i hk
    simp only [Bool.and_eq_true] at hk
    obtain rfl := kEq_eq hk.1
    obtain rfl := kEq_eq hk.2
    simp at h
    obtain ⟨rfl, rfl⟩ := h
    refine ⟨_, _, toE_γ h1 ρ, toE_γ h2 ρ, ?_⟩
    simp [combB, SB.den, cmpI, iEq_eq]
    rfl
   ·simp at h
  ·simp at h
mutual
theorem eqOf_run : ∀ (d : Nat) (t : Nat) (l : List EK), eqOf P d t = some l → ∀ (D : Nat) (ρ : Rho) (w : World) (xs ys : List V) (c : Option SB) (b : Bool), d ≤ D → eqL l xs ys = some (c, b) →
  (Op.equalIn D t ((wrapV P t xs).γ E ρ) ((wrapV P t ys).γ E ρ)).run P w = .ok (combB E c b) w ∧ (aggP P t = false → xs.length = 1 ∧ ys.length = 1)
 | 0, t, l, h, _, _, _, _, _, _, _, _, _ => by simp [eqOf] at h
 | d + 1, t, l, h, D, ρ, w, xs, ys, c, b, hD, he => by
  obtain ⟨D, rfl⟩ : ∃ D', D = D' + 1 := ⟨D - 1, by omega⟩
  simp only [eqOf] at h
  split at h
  ·rename_i hu
   simp at h; subst h
   obtain ⟨x, xs', y, ys', c1, b1, c2, b2, rfl, rfl, h1, h2, h3⟩ := eqL_cons (E := E) he
   obtain ⟨rfl, rfl, h4⟩ := eqL_nil (E := E) h2
   obtain ⟨p, q, e1, e2, e3⟩ := eqC_bool (E := E) h1 ρ
   have hg : aggP P t = false := by rw [aggP_of hu]; rfl
   refine ⟨?_, fun _ => ⟨rfl, rfl⟩⟩
   simp only [wrapV, hg, Bool.false_eq_true, if_false, List.headD_cons, e1, e2]
   rw [run_equalIn_bool' w D t p q hu, h3, e3, h4, Bool.and_true]
  ·rename_i k hu
   simp at h; subst h
   obtain ⟨x, xs', y, ys', c1, b1, c2, b2, rfl, rfl, h1, h2, h3⟩ := eqL_cons (E := E) he
   obtain ⟨rfl, rfl, h4⟩ := eqL_nil (E := E) h2
   obtain ⟨p, q, e1, e2, e3⟩ := eqC_int (E := E) h1 ρ
   have hg : aggP P t = false := by rw [aggP_of hu]; rfl
   refine ⟨?_, fun _ => ⟨rfl, rfl⟩⟩
   simp only [wrapV, hg, Bool.false_eq_true, if_false, List.headD_cons, e1, e2]
   rw [run_equalIn_int w D t k k p q hu, h3, e3, h4, Bool.and_true]
  ·rename_i fl hu
   split at h
   ·simp at h
   ·rename_i hst
    have hg : aggP P t = true := by rw [aggP_of hu]; rfl
    refine ⟨?_, fun hf => by rw [hg] at hf; simp at hf⟩
    have hfl : P.fieldsOf t = fl := by simp [Program.fieldsOf, hu]
    simp only [wrapV, hg, if_true, V.γ]
    rw [run_equalIn_struct w D t _ _ (by rw [hfl]; exact hu) (by simpa using hst), hfl]
    exact eqFs_run d 0 fl.toList l h D ρ w [] [] xs ys c b (by omega) rfl rfl he
  ·rename_i n e hu
   split at h
   ·rename_i l1 h1
    split at h
    ·rename_i hc
     simp only [Bool.and_eq_true, Nat.beq_eq, len_eq] at hc
     simp at h; subst h
     have hg : aggP P t = true := by rw [aggP_of hu]; rfl
     refine ⟨?_, fun hf => by rw [hg] at hf; simp at hf⟩
     obtain ⟨i, hi, his⟩ := isTy_info hc.2
     have hco : P.cellsOf e = sizeP P e := by simp [Program.cellsOf, hi, his]
     simp only [wrapV, hg, if_true, V.γ]
     rw [run_equalIn_array w D _ _ hu hi, List.range_eq_range', hco]
     have key : ∀ (n : Nat) (pre1 pre2 xs ys : List V) (j : Nat) (c : Option SB) (b : Bool) (w : World), pre1.length = j * sizeP P e → pre2.length = j * sizeP P e → eqL (rep n l1) xs ys = some (c, b) →
       (Op.eqItems D e (sizeP P e) (γL E ρ (pre1 ++ xs)).toArray (γL E ρ (pre2 ++ ys)).toArray (List.range' j n)).run P w = .ok (combB E c b) w := by
      intro n
      induction n with
      | zero =>
       intro pre1 pre2 xs ys j c b w _ _ he
       obtain ⟨rfl, rfl, h4⟩ := eqL_nil (E := E) (show eqL [] xs ys = _ from he)
       rw [h4]; simp [Op.eqItems, List.range']
      | succ n ih =>
       intro pre1 pre2 xs ys j c b w hp1 hp2 he
       obtain ⟨xs1, xs2, ys1, ys2, c1, b1, c2, b2, rfl, rfl, q1, q2, q3, q4, q5⟩ := eqL_split (E := E) l1 (rep n l1) (show eqL (l1 ++ rep n l1) xs ys = _ from he)
       obtain ⟨r1, r2⟩ := eqOf_run d e l1 h1 D ρ w xs1 ys1 c1 b1 (by omega) q3
       obtain ⟨p1, _⟩ := part_run (E := E) (w := w) hc.2 (ρ := ρ) (part_wrap (pre := pre1) (xs := xs1) (post := xs2) hp1 (by omega) (fun hf => (r2 hf).1))
       obtain ⟨p2, _⟩ := part_run (E := E) (w := w) hc.2 (ρ := ρ) (part_wrap (pre := pre2) (xs := ys1) (post := ys2) hp2 (by omega) (fun hf => (r2 hf).2))
       rw [List.range'_succ]
       simp only [Op.eqItems, Sem.run_bind, p1, p2, r1, Result.andThen_ok]
       cases hb : combB E c1 b1 with
       | false => simp [q5, hb]
       | true =>
        have := ih (pre1 ++ xs1) (pre2 ++ ys1) xs2 ys2 (j + 1) c2 b2 w (by rw [List.length_append, hp1, Nat.add_mul]; omega) (by rw [List.length_append, hp2, Nat.add_mul]; omega) q4
        simp only [List.append_assoc] at this
        simp [q5, hb, this]
     exact key n [] [] xs ys 0 c b w (by simp) (by simp) he
    ·simp at h
   ·simp at h
  ·simp at h
theorem eqFs_run : ∀ (d : Nat) (off : Nat) (fl : List Field) (l : List EK), eqFs P d off fl = some l → ∀ (D : Nat) (ρ : Rho) (w : World) (pre1 pre2 xs ys : List V) (c : Option SB) (b : Bool), d ≤ D → pre1.length = off → pre2.length = off → eqL l xs ys = some (c, b) →
  (Op.eqFields D (γL E ρ (pre1 ++ xs)).toArray (γL E ρ (pre2 ++ ys)).toArray fl).run P w = .ok (combB E c b) w
 | 0, off, fl, l, h, _, _, _, _, _, _, _, _, _, _, _, _, _ => by simp [eqFs] at h
 | d + 1, off, [], l, h, D, ρ, w, pre1, pre2, xs, ys, c, b, hD, hp1, hp2, he => by
  simp [eqFs] at h; subst h
  obtain ⟨rfl, rfl, h4⟩ := eqL_nil (E := E) he
  rw [h4]; simp [Op.eqFields]
 | d + 1, off, f :: r, l, h, D, ρ, w, pre1, pre2, xs, ys, c, b, hD, hp1, hp2, he => by
  simp only [eqFs] at h
  split at h
  ·rename_i hf
   simp only [Bool.and_eq_true, decide_eq_true_eq, Nat.beq_eq] at hf
   obtain ⟨hname, hoff⟩ := hf
   split at h
   ·rename_i l1 h1
    split at h
    ·rename_i hc
     simp only [Bool.and_eq_true, Nat.beq_eq, len_eq] at hc
     split at h
     ·rename_i m hm
      simp at h; subst h
      obtain ⟨xs1, xs2, ys1, ys2, c1, b1, c2, b2, rfl, rfl, q1, q2, q3, q4, q5⟩ := eqL_split (E := E) l1 m he
      obtain ⟨r1, r2⟩ := eqOf_run d f.type l1 h1 D ρ w xs1 ys1 c1 b1 (by omega) q3
      obtain ⟨p1, _⟩ := part_run (E := E) (w := w) hc.2 (ρ := ρ) (part_wrap (pre := pre1) (xs := xs1) (post := xs2) (off := f.offset) (by omega) (by omega) (fun hf => (r2 hf).1))
      obtain ⟨p2, _⟩ := part_run (E := E) (w := w) hc.2 (ρ := ρ) (part_wrap (pre := pre2) (xs := ys1) (post := ys2) (off := f.offset) (by omega) (by omega) (fun hf => (r2 hf).2))
      have ih := eqFs_run d (off + l1.length) r m (by rw [← len_eq]; exact hm) D ρ w (pre1 ++ xs1) (pre2 ++ ys1) xs2 ys2 c2 b2 (by omega) (by rw [List.length_append]; omega) (by rw [List.length_append]; omega) q4
      simp only [List.append_assoc] at ih
      simp only [Op.eqFields, hname, ne_eq, not_false_eq_true, if_true, Sem.run_bind, p1, p2, r1, Result.andThen_ok]
      cases hb : combB E c1 b1 with
      | false => simp [q5, hb]
      | true => simp [q5, hb, ih]
     ·simp at h
    ·simp at h
   ·simp at h
  ·simp at h
end
theorem eqSpec_tyOf : EqSpec P (tyOf P) := by
 intro t l h
 have h : eqT P t = some l := h
 unfold eqT at h
 split at h
 ·simp at h
 ·rename_i hc
  simp only [Bool.or_eq_true, Bool.not_eq_true', not_or, Bool.not_eq_true, Bool.not_eq_false] at hc
  refine ⟨hc.1, fun E ρ w xs ys c b he => ?_⟩
  have h1 := (eqOf_run (E := E) 40 t l h 10000 ρ w xs ys c b (by decide) he).1
  simp only [wrapV, hc.2, if_true, V.γ] at h1
  exact h1
theorem keyB_one {kd : IntKind} {v : V} (h : keyB (.one kd) v = true) : ∃ n, v = .i kd n := by
 cases v <;> simp only [keyB] at h <;> first | (simp at h; done) | skip
 exact ⟨_, by rw [kEq_eq h]⟩
theorem findNow_run {kd : IntKind} (ρ : Rho) {n : Int} : ∀ (l : List (V × V)) (es : List MapEntry) (i : Nat) (r : Option (Nat × V)), findP (.one kd) (.i kd n) l i = some r → es.map (fun e => (e.key, e.val)) = l.map (fun p => (p.1.γ E ρ, p.2.γ E ρ)) →
  Instr.findNow (.int kd) (.int kd n) es i = some (r.map (fun q => (q.1, q.2.γ E ρ)))
 | [], es, i, r, h, he => by
  have h : some none = some r := h
  cases h
  obtain rfl : es = [] := by simpa using he
  rfl
 | (a, b) :: l, es, i, r, h, he => by
  cases es with
  | nil => simp at he
  | cons e es =>
   simp only [List.map_cons, List.cons.injEq, Prod.mk.injEq] at he
   obtain ⟨⟨h1, h2⟩, h3⟩ := he
   have h : bc (keyB (.one kd) a) (bc (V.beq (.i kd n) a) (noneAt (findP (.one kd) (.i kd n) l (Nat.succ i)) (some (some (i, b)))) (findP (.one kd) (.i kd n) l (Nat.succ i))) none = some r := h
   cases hk : keyB (.one kd) a with
   | false => rw [hk] at h; cases h
   | true =>
    rw [hk] at h
    have h : bc (V.beq (.i kd n) a) (noneAt (findP (.one kd) (.i kd n) l (Nat.succ i)) (some (some (i, b)))) (findP (.one kd) (.i kd n) l (Nat.succ i)) = some r := h
    obtain ⟨m, rfl⟩ := keyB_one hk
    have h1 : e.key = .int kd m := h1
    have hb : V.beq (.i kd n) (.i kd m) = decide (n = m) := by
     have : kEq kd kd = true := by cases kd <;> rfl
     simp only [V.beq, this, iEq_eq, Bool.true_and]
    rw [hb] at h
    by_cases hnm : n = m
    ·rw [decide_eq_true hnm] at h
     obtain ⟨_, h⟩ := noneAt_ok h
     cases h
     subst hnm
     simp [Instr.findNow, Instr.sameNow, h1, h2]
    ·rw [decide_eq_false hnm] at h
     have := findNow_run ρ l es (i + 1) r h h3
     simp [Instr.findNow, Instr.sameNow, h1, show (n == m) = false by simpa using hnm, this]
theorem keySpec_int {k : TypeId} {kd : IntKind} (hu : P.underlying k = some (.int kd)) : KeySpec P k (.one kd) where
 check := fun E ρ w em v hv => by
  obtain ⟨n, rfl⟩ := keyB_one hv
  exact MapKept.run_checkKey hu (k := .int kd n) rfl em 9999
 find := fun E ρ w v l r es hv hf he => by
  obtain ⟨n, rfl⟩ := keyB_one hv
  exact MapKept.run_findKey hu (findNow_run ρ l es 0 r hf he)
 checkS := fun E ρ w em v hv => by cases v <;> simp [keyS] at hv
 findS := fun E ρ w v l es hv => by cases v <;> simp [keyS] at hv
 stays := fun E ρ w v hv => by
  obtain ⟨n, rfl⟩ := keyB_one hv
  exact MapKept.run_keyThatStays (d := .int kd) (k := .int kd n) rfl
theorem eqL_lit : ∀ {l : List EK} {a b : List V}, litKs l a = true → litKs l b = true → eqL l a b = some (none, vlBeq a b)
 | [], a, b, ha, hb => by
  cases a <;> cases b <;> simp [litKs] at ha hb
  rfl
 | .bool :: l, a, b, ha, hb => by cases a <;> simp [litKs] at ha
 | .int k :: l, a, b, ha, hb => by
  cases a with
  | nil => simp [litKs] at ha
  | cons x a =>
   cases b with
   | nil => simp [litKs] at hb
   | cons y b =>
    cases x <;> simp only [litKs] at ha <;> first | (simp at ha; done) | skip
    cases y <;> simp only [litKs] at hb <;> first | (simp at hb; done) | skip
    simp only [Bool.and_eq_true] at ha hb
    have h1 := kEq_eq ha.1
    have h2 := kEq_eq hb.1
    subst h1; subst h2
    have hk : kEq k k = true := by cases k <;> rfl
    simp only [eqL, eqC, hk, Bool.and_self, if_true, eqL_lit ha.2 hb.2, vlBeq, V.beq, Bool.true_and, andO]
    rename_i n m
    cases iEq n m <;> cases vlBeq a b <;> rfl
theorem sym_of_lit : ∀ {l : List EK} {a : List V}, litKs l a = true → symKs l a = true
 | [], a, h => by cases a <;> simp [litKs] at h; rfl
 | .bool :: l, a, h => by cases a <;> simp [litKs] at h
 | .int k :: l, a, h => by
  cases a with
  | nil => simp [litKs] at h
  | cons y a =>
   cases y <;> simp only [litKs] at h <;> first | (simp at h; done) | skip
   simp only [Bool.and_eq_true] at h
   simp only [symKs, h.1, sym_of_lit h.2, Bool.and_self]
theorem sym_cells (ρ : Rho) : ∀ {l : List EK} {a : List V}, symKs l a = true → ∀ x ∈ γL E ρ a, ∃ k n, x = .int k n
 | [], a, h, x, hx => by
  cases a <;> simp [symKs] at h
  cases hx
 | .bool :: l, a, h, x, hx => by cases a <;> simp [symKs] at h
 | .int k :: l, a, h, x, hx => by
  cases a with
  | nil => cases hx
  | cons y a =>
   cases y <;> simp only [symKs] at h <;> first | (simp at h; done) | skip
   all_goals
    simp only [Bool.and_eq_true] at h
    rcases List.mem_cons.1 hx with rfl | hx
    ·exact ⟨_, _, rfl⟩
    ·exact sym_cells ρ h.2 x hx
theorem lit_cells (ρ : Rho) {l : List EK} {a : List V} (h : litKs l a = true) : ∀ x ∈ γL E ρ a, ∃ k n, x = .int k n := sym_cells ρ (sym_of_lit h)
theorem sym_len : ∀ {l : List EK} {a : List V}, symKs l a = true → a.length = l.length
 | [], a, h => by cases a <;> simp [symKs] at h; rfl
 | .bool :: l, a, h => by cases a <;> simp [symKs] at h
 | .int k :: l, a, h => by
  cases a with
  | nil => simp [symKs] at h
  | cons y a =>
   cases y <;> simp only [symKs] at h <;> first | (simp at h; done) | skip
   all_goals
    simp only [Bool.and_eq_true] at h
    simp [sym_len h.2]
theorem exE_ok {e : SE} {n : Int} (h : exE e n = true) : e.den E ≠ n := by
 unfold exE at h
 split at h
 ·rename_i x a
  rw [iLt_eq] at h
  have h := of_decide_eq_true h
  show (if SE.den E x < a then a else SE.den E x) ≠ n
  by_cases hc : SE.den E x < a
  ·rw [if_pos hc]; omega
  ·rw [if_neg hc]; omega
 ·rename_i x a
  rw [iLt_eq] at h
  have h := of_decide_eq_true h
  show (if a < SE.den E x then a else SE.den E x) ≠ n
  by_cases hc : a < SE.den E x
  ·rw [if_pos hc]; omega
  ·rw [if_neg hc]; omega
 ·cases h
theorem eqL_sym : ∀ {l : List EK} {a b : List V}, symKs l a = true → litKs l b = true → ∃ c t, eqL l a b = some (c, t) ∧ (exL a b = true → combB E c t = false)
 | [], a, b, ha, hb => by
  cases a <;> simp [symKs] at ha
  cases b <;> simp [litKs] at hb
  exact ⟨none, true, rfl, fun h => by cases h⟩
 | .bool :: l, a, b, ha, hb => by cases a <;> simp [symKs] at ha
 | .int k :: l, a, b, ha, hb => by
  cases b with
  | nil => simp [litKs] at hb
  | cons y b =>
   cases y <;> simp only [litKs] at hb <;> first | (simp at hb; done) | skip
   rename_i k2 m
   simp only [Bool.and_eq_true] at hb
   cases a with
   | nil => simp [symKs] at ha
   | cons x a =>
    have hk : kEq k k = true := by cases k <;> rfl
    cases x <;> simp only [symKs] at ha <;> first | (simp at ha; done) | skip
    ·rename_i k1 n
     simp only [Bool.and_eq_true] at ha
     obtain rfl := kEq_eq ha.1
     obtain rfl := kEq_eq hb.1
     obtain ⟨c, t, h1, h2⟩ := eqL_sym ha.2 hb.2
     refine ⟨_, _, (by simp only [eqL, eqC, hk, Bool.and_self, if_true, h1]; rfl), fun hx => ?_⟩
     refine (combB_and _ _ _ _).trans ?_
     have hx : bc (bc (iEq n m) false true) true (exL a b) = true := hx
     cases hnm : iEq n m with
     | false => simp [combB]
     | true =>
      rw [hnm] at hx
      rw [h2 hx, Bool.and_false]
    ·rename_i k1 e
     simp only [Bool.and_eq_true] at ha
     obtain rfl := kEq_eq ha.1
     obtain rfl := kEq_eq hb.1
     obtain ⟨c, t, h1, h2⟩ := eqL_sym ha.2 hb.2
     refine ⟨_, _, (by simp only [eqL, eqC, toE, hk, Bool.and_self, if_true, h1]; rfl), fun hx => ?_⟩
     refine (combB_and _ _ _ _).trans ?_
     have hx : bc (exE e m) true (exL a b) = true := hx
     cases hem : exE e m with
     | true =>
      have := exE_ok (E := E) hem
      simp [combB, SB.den, cmpI, iEq_eq, SE.den, this]
     | false =>
      rw [hem] at hx
      rw [h2 hx, Bool.and_false]
theorem keyB_agg {l : List EK} {v : V} (h : keyB (.agg l) v = true) : ∃ a, v = .agg a ∧ litKs l a = true := by
 cases v <;> simp only [keyB] at h <;> first | (simp at h; done) | exact ⟨_, rfl, h⟩
theorem findAsk_run {k : TypeId} {l : List EK} (heq : ∀ (E : Env) (ρ : Rho) (w : World) xs ys c b, eqL l xs ys = some (c, b) → (Op.equal k (.agg (γL E ρ xs).toArray) (.agg (γL E ρ ys).toArray)).run P w = .ok (combB E c b) w) (ρ : Rho) (w : World) {a : List V} (ha : litKs l a = true) :
  ∀ (ps : List (V × V)) (es : List MapEntry) (i : Nat) (r : Option (Nat × V)), findP (.agg l) (.agg a) ps i = some r → es.map (fun e => (e.key, e.val)) = ps.map (fun p => (p.1.γ E ρ, p.2.γ E ρ)) →
   (Instr.findAsking k (.agg (γL E ρ a).toArray) es i).run P w = .ok (r.map (fun q => (q.1, q.2.γ E ρ))) w
 | [], es, i, r, h, he => by
  have h : some none = some r := h
  cases h
  obtain rfl : es = [] := by simpa using he
  simp [Instr.findAsking]
 | (x, b) :: ps, es, i, r, h, he => by
  cases es with
  | nil => simp at he
  | cons e es =>
   simp only [List.map_cons, List.cons.injEq, Prod.mk.injEq] at he
   obtain ⟨⟨h1, h2⟩, h3⟩ := he
   have h : bc (keyB (.agg l) x) (bc (V.beq (.agg a) x) (noneAt (findP (.agg l) (.agg a) ps (Nat.succ i)) (some (some (i, b)))) (findP (.agg l) (.agg a) ps (Nat.succ i))) none = some r := h
   cases hk : keyB (.agg l) x with
   | false => rw [hk] at h; cases h
   | true =>
    rw [hk] at h
    have h : bc (V.beq (.agg a) x) (noneAt (findP (.agg l) (.agg a) ps (Nat.succ i)) (some (some (i, b)))) (findP (.agg l) (.agg a) ps (Nat.succ i)) = some r := h
    obtain ⟨y, rfl, hy⟩ := keyB_agg hk
    have h1 : e.key = .agg (γL E ρ y).toArray := h1
    have hrun := heq E ρ w a y none (vlBeq a y) (eqL_lit ha hy)
    have hcb : combB E none (vlBeq a y) = vlBeq a y := by simp [combB]
    rw [hcb] at hrun
    have hvb : V.beq (.agg a) (.agg y) = vlBeq a y := by simp only [V.beq]
    rw [hvb] at h
    cases hb : vlBeq a y with
    | true =>
     rw [hb] at h hrun
     obtain ⟨_, h⟩ := noneAt_ok h
     cases h
     simp [Instr.findAsking, h1, h2, hrun]
    | false =>
     rw [hb] at h hrun
     have := findAsk_run heq ρ w ha ps es (i + 1) r h h3
     simp [Instr.findAsking, h1, hrun, this]
theorem intT_ok {e : TypeId} (h : isIntT P e = true) : (∃ kd, P.underlying e = some (.int kd)) ∧ isTy P e = true ∧ sizeP P e = 1 := by
 unfold isIntT at h
 simp only [Bool.and_eq_true, Nat.beq_eq] at h
 refine ⟨?_, h.1.2, h.2⟩
 have := h.1.1
 split at this
 ·rename_i kd hk; exact ⟨kd, hk⟩
 ·cases this
theorem check_int {e : TypeId} (h : isIntT P e = true) (em : Bool) (n : Nat) (x : Value) (w : World) (hx : ∃ k m, x = .int k m) : (Instr.checkKey em (n + 1) e x).run P w = .ok () w := by
 obtain ⟨⟨kd, hu⟩, _⟩ := intT_ok h
 obtain ⟨k, m, rfl⟩ := hx
 simp [Instr.checkKey, run_underlying hu]
theorem part_int {e : TypeId} (h : isIntT P e = true) (ρ : Rho) (w : World) {a : List V} {off : Nat} (ho : off < a.length) : (Go.part e (γL E ρ a).toArray off).run P w = .ok ((a[off]).γ E ρ) w := by
 obtain ⟨⟨kd, hu⟩, h2, h3⟩ := intT_ok h
 have hg : aggP P e = false := by rw [aggP_of hu]; rfl
 refine (part_run (E := E) (w := w) h2 (ρ := ρ) (l := a) (o := off) (v := a[off]) ?_).1
 rw [hg]
 unfold Go.Ev.part
 simp only [Bool.false_eq_true, if_false]
 rw [nth_eq]
 simp [ho]
theorem keySpec_agg {k : TypeId} {l : List EK} (hl : eqT P k = some l) (hwide : (match P.underlying k with | some (.array _ _) | some (.struct _) => true | _ => false) = true)
  (hc : ∀ (E : Env) (ρ : Rho) (w : World) (em : Bool) (a : List V), symKs l a = true → (Instr.checkKey em 10000 k (.agg (γL E ρ a).toArray)).run P w = .ok () w) : KeySpec P k (.agg l) where
 check := fun E ρ w em v hv => by
  obtain ⟨a, rfl, ha⟩ := keyB_agg hv
  exact hc E ρ w em a (sym_of_lit ha)
 checkS := fun E ρ w em v hv => by
  cases v <;> simp only [keyS] at hv <;> first | (simp at hv; done) | exact hc E ρ w em _ hv
 findS := fun E ρ w v ps es hv hx he => by
  cases v <;> simp only [keyS] at hv <;> first | (simp at hv; done) | skip
  rename_i a
  show (Instr.findKey k (.agg (γL E ρ a).toArray) es).run P w = .ok none w
  rw [run_findKey_eq w hwide]
  generalize 0 = i
  induction ps generalizing es i with
  | nil =>
   obtain rfl : es = [] := by simpa using he
   simp [Instr.findAsking]
  | cons p ps ih =>
   cases es with
   | nil => simp at he
   | cons e es =>
    simp only [List.map_cons, List.cons.injEq, Prod.mk.injEq] at he
    obtain ⟨⟨h1, h2⟩, h3⟩ := he
    have hp := hx p (List.mem_cons_self ..)
    obtain ⟨p1, p2⟩ := p
    cases p1 <;> simp only [exK] at hp <;> first | (simp at hp; done) | skip
    rename_i y
    simp only [Bool.and_eq_true] at hp
    obtain ⟨c, t, g1, g2⟩ := eqL_sym (E := E) hv hp.1
    have hrun := (eqSpec_tyOf k l hl).2 E ρ w a y c t g1
    rw [g2 hp.2] at hrun
    have h1 : e.key = .agg (γL E ρ y).toArray := h1
    have := ih es h3 (fun q hq => hx q (List.mem_cons_of_mem _ hq)) (i + 1)
    simp [Instr.findAsking, h1, hrun, this]
 find := fun E ρ w v ps r es hv hf he => by
  obtain ⟨a, rfl, ha⟩ := keyB_agg hv
  have h1 := findAsk_run (P := P) (k := k) (eqSpec_tyOf k l hl).2 ρ w ha ps es 0 r hf he
  rw [← run_findKey_eq w hwide] at h1
  exact h1
 stays := fun E ρ w v hv => by
  obtain ⟨a, rfl, ha⟩ := keyB_agg hv
  have hs : Instr.sameBits 10000 (.agg (γL E ρ a).toArray) (.agg (γL E ρ a).toArray) = true := by
   show Instr.sameBits (9999 + 1) _ _ = true
   simp only [Instr.sameBits, beq_self_eq_true, Bool.true_and, List.all_eq_true]
   intro p hp
   obtain ⟨i, hi, e⟩ := List.getElem_of_mem hp
   rw [List.getElem_zip] at e
   rw [← e]
   obtain ⟨kk, n, hx⟩ := lit_cells (E := E) ρ ha _ (List.getElem_mem (by simpa using hi))
   simp only [List.toList_toArray] at hx ⊢
   rw [hx]
   simp [Instr.sameBits]
  simp [Instr.keyThatStays, V.γ, hs]
theorem kk_ok {k : TypeId} {kk : KK} (h : kkOf P k = some kk) : KeySpec P k kk := by
 unfold kkOf at h
 split at h
 ·rename_i kd hu
  cases h
  exact keySpec_int hu
 ·rename_i n e hu
  split at h
  ·rename_i l hl
   split at h
   ·rename_i hc
    simp only [Bool.and_eq_true, Nat.beq_eq, len_eq] at hc
    cases h
    refine keySpec_agg hl (by rw [hu]) fun E ρ w em a ha => ?_
    have hlen := sym_len ha
    obtain ⟨i, hi, his⟩ := isTy_info (intT_ok hc.1).2.1
    have hsz := (intT_ok hc.1).2.2
    rw [show (10000 : Nat) = 9999 + 1 from rfl, Instr.checkKey]
    simp only [Sem.run_bind, run_underlying hu, Result.andThen_ok]
    simp only [Std.Legacy.Range.forIn_eq_forIn_range', Std.Legacy.Range.size, Nat.sub_zero, Nat.add_one_sub_one, Nat.div_one]
    have each : ∀ j ∈ List.range' 0 n, j < a.length := fun j hj => by
     have := List.mem_range'_1.1 hj
     omega
    generalize List.range' 0 n = is at each
    induction is with
    | nil => simp
    | cons j is ih =>
     have hj := each j (by simp)
     have p1 := part_int (E := E) hc.1 ρ w hj
     obtain ⟨kk, m, hx⟩ := sym_cells (E := E) ρ ha ((a[j]).γ E ρ) (by rw [γL_eq]; exact List.mem_map.2 ⟨_, List.getElem_mem hj, rfl⟩)
     have p2 := check_int hc.1 em 9998 ((a[j]).γ E ρ) w ⟨kk, m, hx⟩
     have hs : (sizeOf e).run P w = .ok 1 w := by rw [(isTy_run (intT_ok hc.1).2.1).1, hsz]
     simp only [List.forIn_cons, Sem.run_bind, hs, Nat.mul_one, Result.andThen_ok, p1, p2, Sem.run_pure]
     exact ih (fun y hy => each y (by simp [hy]))
   ·cases h
  ·cases h
 ·rename_i fl hu
  split at h
  ·rename_i l hl
   split at h
   ·rename_i hc
    cases h
    refine keySpec_agg hl (by rw [hu]) fun E ρ w em a ha => ?_
    have hlen := sym_len ha
    have each : ∀ f ∈ fl.toList, f.name ≠ "_" ∧ isIntT P f.type = true ∧ f.offset < a.length := fun f hf => by
     have := (allB_eq _ _).1 hc f hf
     simp only [Bool.and_eq_true, decide_eq_true_eq, len_eq, Nat.blt_eq] at this
     exact ⟨this.1.1, this.1.2, by omega⟩
    rw [show (10000 : Nat) = 9999 + 1 from rfl, Instr.checkKey]
    simp only [Sem.run_bind, run_underlying hu, Result.andThen_ok]
    rw [← Array.forIn_toList]
    generalize fl.toList = L at each
    induction L with
    | nil => simp
    | cons f L ih =>
     obtain ⟨hn, ht, ho⟩ := each f (by simp)
     have p1 := part_int (E := E) ht ρ w ho
     obtain ⟨kk, m, hx⟩ := sym_cells (E := E) ρ ha ((a[f.offset]).γ E ρ) (by rw [γL_eq]; exact List.mem_map.2 ⟨_, List.getElem_mem ho, rfl⟩)
     have p2 := check_int ht em 9998 ((a[f.offset]).γ E ρ) w ⟨kk, m, hx⟩
     simp only [List.forIn_cons, Sem.run_bind, hn, ne_eq, not_false_eq_true, if_true, Result.andThen_ok, p1, p2, Sem.run_pure]
     exact ih (fun y hy => each y (by simp [hy]))
   ·cases h
  ·cases h
 ·cases h
theorem mpSpec_tyOf : MpSpec P (tyOf P) := by
 intro t kk z h
 have h : mpT P t = some (kk, z) := h
 unfold mpT at h
 split at h
 ·rename_i k e hu
  split at h
  ·rename_i kk' z' h1 h2
   cases h
   exact ⟨k, e, hu, kk_ok h1, h2⟩
  ·cases h
 ·cases h
theorem tyOk_tyOf : TyOk P (tyOf P) := ⟨fun t => .inr rfl, eqSpec_tyOf, mpSpec_tyOf⟩
end Go.Ev
end
/-
 Calls whose end is known already.
-/
set_option linter.unusedSimpArgs false
set_option linter.unusedVariables false
noncomputable section
namespace Go.Ev
open Go
variable {E : Env} {P : Program}
def ptBeq : PT O → PT O → Bool
 | .e, .e => true
 | .n v l r, .n v' l' r' => ooBeq v v' && ptBeq l l' && ptBeq r r'
 | _, _ => false
theorem ptBeq_ok : ∀ {x y : PT O}, ptBeq x y = true → x = y
 | .e, y, h => by cases y <;> simp only [ptBeq] at h <;> first | (simp at h; done) | rfl
 | .n v l r, y, h => by cases y <;> simp only [ptBeq, Bool.and_eq_true] at h <;> first | (simp at h; done) | rw [ooBeq_ok h.1.1, ptBeq_ok h.1.2, ptBeq_ok h.2]
def H.beq (a b : H) : Bool := hc a (fun n lo t => hc b (fun n' lo' t' => pEq n n' && pEq lo lo' && ptBeq t t'))
theorem H.beq_ok {a b : H} (h : H.beq a b = true) : a = b := by
 cases a; cases b
 simp only [H.beq, hc_eq, Bool.and_eq_true] at h
 rw [pEq_ok h.1.1, pEq_ok h.1.2, ptBeq_ok h.2]
structure Memo where
 F : Nat
 l : List V
 h : H
 v : V
 h' : H
end Go.Ev
end
/-
 A chunk of a run: a call's end, but for what nobody can reach any more.
-/
set_option linter.unusedSimpArgs false
set_option linter.unusedVariables false
noncomputable section
namespace Go.Ev
open Go
variable {E : Env} {P : Program}
def ooSub : Option O → Option O → Bool
 | none, _ => true
 | some a, some b => O.beq a b
 | _, _ => false
def ptSub : PT O → PT O → Bool
 | .e, _ => true
 | .n v l r, .n v' l' r' => ooSub v v' && ptSub l l' && ptSub r r'
 | _, _ => false
def chk (v : V) (hq : H) : K := fun v2 h2 _ => bc (V.beq v2 v) (bc (hc hq (fun n lo t => hc h2 (fun n' lo' t' => pEq n n' && pEq lo lo' && ptSub t t'))) 0 1) 1
end Go.Ev
end
/-
 Hooks: a function whose contract is known already.
-/
set_option linter.unusedSimpArgs false
set_option linter.unusedVariables false
noncomputable section
namespace Go.Ev
open Go
variable {E : Env} {P : Program}
def pureHook (f : List V → Option V) : List V → H → Fa → K → Nat := fun l h fa k => oc (f l) (fun v => k v h fa) 1
theorem pureHook_ok {F : Nat} {f : List V → Option V} (hca : Callable P F)
  (hf : ∀ l v, f l = some v → v.bd 0 ∧ ∀ (E : Env) (ρ : Rho) (w : World), Calls P F (γL E ρ l).toArray w fun e w' => e = .returned (v.γ E ρ) ∧ w'.heap = w.heap ∧ w'.os = w.os ∧ w'.tape = w.tape ∧ w'.output = w.output) :
  CallOk E P (fun G l h fa k => bc (Nat.beq G F) (pureHook f l h fa k) 1) := by
 intro G l h fa k hk hfa
 obtain ⟨hG, hk2⟩ := bc_ok (show bc (Nat.beq G F) (pureHook f l h fa k) 1 = 0 from hk) (by simp)
 clear hk
 have hG : G = F := by simpa using hG
 subst hG
 obtain ⟨v, hv, hk⟩ := oc_ok (show oc (f l) _ 1 = 0 from hk2) (by simp)
 obtain ⟨h1, h2⟩ := hf l v hv
 refine ⟨hca, v, h, fa, hk, hfa, fun ρ w hb hs => (h2 E ρ w).mono ?_⟩
 rintro e w' ⟨he, hh, ho, ht, hu⟩
 exact ⟨ρ, he, ⟨fun p o hp => by rw [hh]; exact hs.obj p o hp, hs.inj, hs.bd⟩,
  ⟨Nat.le_refl _, rfl, fun _ _ => rfl, fun p o h3 h4 => by have := (hs.bd p o h4).1; omega, ho, ht, hu, by rw [hh]; exact Nat.le_refl _, fun _ _ _ => by rw [hh], fun _ _ _ => rfl, fun p o _ h3 h4 => ⟨o, h3, h4⟩⟩, bd_mono (Nat.zero_le _) v h1⟩
def len64F : List V → Option V
 | [.i .u64 (.ofNat n)] => bc (Nat.blt n 18446744073709551616) (some (.i .i64 (.ofNat (Lib.bitLen n)))) none
 | _ => none
theorem len64_ok {F : Nat} (hca : Callable P F)
  (hc : ∀ (x : Int) (w : World), 0 ≤ x → x ≤ 18446744073709551615 → Calls P F #[.int .u64 x] w fun e w' => e = .returned (.int .i64 (Lib.bitLen x.toNat)) ∧ w' = w) :
  CallOk E P (fun G l h fa k => bc (Nat.beq G F) (pureHook len64F l h fa k) 1) := by
 refine pureHook_ok hca fun l v hv => ?_
 unfold len64F at hv
 split at hv
 ·rename_i n
  cases hn : Nat.blt n 18446744073709551616 with
  | false => rw [hn] at hv; cases hv
  | true =>
   rw [hn] at hv
   have hv : some (V.i .i64 (.ofNat (Lib.bitLen n))) = some v := hv
   cases hv
   have hn : n < 18446744073709551616 := by simpa using hn
   refine ⟨trivial, fun E ρ w => (hc (.ofNat n) w (Int.natCast_nonneg n) (by show (n : Int) ≤ _; omega)).mono ?_⟩
   rintro e w' ⟨rfl, rfl⟩
   exact ⟨rfl, rfl, rfl, rfl, rfl⟩
 ·cases hv
end Go.Ev
end
