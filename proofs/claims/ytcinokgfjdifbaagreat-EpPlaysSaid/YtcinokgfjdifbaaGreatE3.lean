import Derived.Test.YtcinokgfjdifbaaGreatE2
import Derived.OrdersHeld
import Derived.LoopN
import Derived.Scope
import Derived.MapKept
import Derived.Laws.StructEq
import Derived.ChangeKeysEq
import Derived.WideKeyRuns
import Derived.Lib.BitFns
set_option linter.unusedSimpArgs false
set_option linter.unusedVariables false
noncomputable section
namespace Go.Ev
open Go
variable {E : Env} {P : Program} {N : Nat}
def AE.exit' : AE -> Exit
 | .normal => .normal
 | .ret => .ret
 | .exit n => .exit n
def zbU (ops : Array Oper) : List (Bool × Nat) -> Array Bool -> Bool
 | [], listed => (Region.ready .any ops listed).isEmpty
 | (true, i) :: r, listed => decide (i < ops.size) && Region.free .any ops listed i && (Region.ready .any ops listed).contains i && zbU ops r (listed.setIfInBounds i true)
 | (false, i) :: r, listed => decide (i < ops.size) && decide (Region.ready .any ops listed = [i]) && zbU ops r (listed.setIfInBounds i true)
def heldB (ops : Array Oper) (ord : List (Bool × Nat)) : Bool := Region.noSelect ops && decide (ord.length = ops.size) && zbU ops ord (Array.replicate ops.size false)
def zgM (ops : Array Oper) (m : Nat) (tl : List Nat) : Bool :=
 EvQ.lexTailP .any ops m tl || (decide (ops.size <= m) && tl.isEmpty && Region.lexB .any ops) || (tl.isEmpty && EvQ.lexTwo .any ops m)
def mixG (ops : Array Oper) (n : Nat) (ord : List (Bool × Nat)) (listed : Array Bool) : Bool := (Region.ready .any ops listed).all (fun j => decide (n <= j)) && zbU ops ord listed
def mixB (ops : Array Oper) (n : Nat) (ord : List (Bool × Nat)) : Bool :=
 Region.noSelect ops && decide (n < ops.size) && Region.sinkB .any ops n && EvQ.tailB .any ops n && decide (n + ord.length = ops.size) && EvQ.lexHeadF .any ops (mixG ops n ord) n 0 (Array.replicate ops.size false)
def chB (ops : Array Oper) : List (Nat × List Nat) -> Bool
 | [] => true
 | [_] => true
 | a :: b :: r => (EvQ.edgesOf ops b.1).contains a.1 && chB ops (b :: r)
def j2 (dr : Nat -> Option Dr) : Code -> Bool
 | .seq a b => j2 dr a && j2 dr b
 | .cond _ a b => j2 dr a && j2 dr b
 | .block _ a => j2 dr a
 | .loop a => j2 dr a
 | .scope a => j2 dr a
 | .region id ops true => match dr id with
  | some (.tail m tl) => zgM ops m tl
  | some (.held bs ord) => heldB ops ord
  | some (.mix n bs ord) => mixB ops n ord
  | some (.hold2 bs ord tl) => false
  | some (.flo bs ord ch q tl) => false
  | some (.heldK ks ord) => false
  | some (.heldK2 ks ord tl) => false
  | some (.floK ks ord q tl) => false
  | some (.mapK _ ord qs cs q ins n0) => false
  | none => true
 | _ => true
def Runs (E : Env) (P : Program) (N : Nat) (c : Code) (fr : Fr) (h : H) (k : K2) : Prop :=
 ∃ ae fr' h' fa', k ae fr' h' fa' = 0 /\ FaOk E fa' /\ ∀ {DS : List Deferred} ρ w a QQ, Sat E ρ h w -> yF E ρ h.n.toNat fr (a : Act).tmps -> N <= a.tmps.size -> a.defers = DS -> (∀ a' w', At E N DS ρ h w fr' h' a' w' -> QQ (AE.exit' ae) a' w') -> c.wp P QQ a w
theorem zg3 {ρ : Rho} {h : H} {w : World} (s : Sat E ρ h w) : Sat E ρ h w.drew := ⟨s.obj, s.inj, s.bd⟩
theorem ze2 {ρ : Rho} {h : H} {w : World} (s : Sat E ρ h w) : Ext ρ h w ρ h w.drew :=
 ⟨Nat.le_refl _, rfl, fun _ _ => rfl, fun p o h1 h2 => by have := (s.bd p o h2).1; omega, rfl, rfl, rfl, Nat.le_refl _, fun _ _ _ => rfl, fun _ _ _ => rfl, fun p o _ h1 h2 => ⟨o, h1, h2⟩⟩
theorem zrP (ops : Array Oper) (tl : List Nat) : zcm ops.toList tl = EvQ.pick ops tl := by
 induction tl with
 | nil => rfl
 | cons i r ih =>
  simp only [zcm, jY, EvQ.pick, List.filterMap_cons]
  simp only [Array.getElem?_toList]
  cases ops[i]? with
  | none => simpa [EvQ.pick] using ih
  | some o => simpa [EvQ.pick] using ih
def zer (hS h : H) : Prop := ∀ p o, hS.t.get p = some o -> o.live = true -> h.t.get p = some o
theorem zlt {ρ0 ρ : Rho} {hS h : H} {w0 w : World} (s0 : Sat E ρ0 hS w0) (s : Sat E ρ h w) (hk : zer hS h) (ha : ∀ p : Ev.P, p.toNat < hS.n.toNat -> ρ p = ρ0 p) : Sat E ρ0 hS w := by
 refine ⟨fun p o hp => ?_, fun p q o o' hp hq l1 l2 he => ?_, s0.bd⟩
 ·cases hl : o.live with
  | false => cases o <;> simp [O.live] at hl; trivial
  | true =>
   have h1 := s.obj p o (hk p o hp hl)
   rw [ha p (s0.bd p o hp).1] at h1
   exact O.Is_agree E (fun i hi => (ha i hi).symm) (s0.bd p o hp).2 h1
 ·refine s.inj p q o o' (hk p o hp (jk l1)) (hk q o' hq l2) l1 l2 ?_
  rw [ha p (s0.bd p o hp).1, ha q (s0.bd q o' hq).1]; exact he
theorem zhK {fr : Fr} {e : Nat} (he : e ≠ 0) : ∀ (bs : List Nat) (h : H) (k : H -> Nat), deadT fr e (bs.map zA) h k = 0 -> ∃ hS, k hS = 0 /\ hS.n = h.n /\ zer hS h /\
  ∀ (E : Env) ρ w tmps, yF E ρ h.n.toNat fr tmps -> Sat E ρ h w -> Sat E ρ hS w
 | [], h, k, hk => ⟨h, hk, rfl, fun p o hp _ => hp, fun E ρ w tmps _ hs => hs⟩
 | b :: r, h, k, hk => by
  have hk : zbc (fr.get (zA b)) (fun id _ => zb2 h id .dead (fun h => deadT fr e (r.map zA) h k)) e = 0 := hk
  obtain ⟨id, off, hp, hk⟩ := zcw hk he
  rw [zaG] at hk
  obtain ⟨hS, h1, h2, h3, h4⟩ := zhK he r _ k hk
  refine ⟨hS, h1, h2, fun p o ho hl => ?_, fun E ρ w tmps hf hs => h4 E ρ w tmps hf ?_⟩
  ·have h5 := h3 p o ho hl
   simp only [H.put, get_set] at h5
   split at h5
   ·simp at h5; subst h5; simp [O.live] at hl
   ·exact h5
  ·have hid := (hf b _ hp).2
   have hg : ∀ q o', (h.put id .dead).t.get q = some o' -> (q = id /\ o' = .dead) \/ h.t.get q = some o' := by
    intro q o' hq
    simp only [H.put, get_set] at hq
    split at hq
    ·rename_i e; simp at hq; exact .inl ⟨Ev.P.toNat_inj e, hq.symm⟩
    ·exact .inr hq
   refine ⟨fun q o' hq => ?_, fun p q o o' hp hq l1 l2 he => ?_, fun q o' hq => ?_⟩
   ·rcases hg q o' hq with ⟨rfl, rfl⟩ | hq
    ·trivial
    ·exact hs.obj q o' hq
   ·rcases hg p o hp with ⟨rfl, rfl⟩ | hp
    ·simp [O.mine] at l1
    ·rcases hg q o' hq with ⟨rfl, rfl⟩ | hq
     ·simp [O.live] at l2
     ·exact hs.inj p q o o' hp hq l1 l2 he
   ·rcases hg q o' hq with ⟨rfl, rfl⟩ | hq
    ·exact ⟨hid, trivial⟩
    ·exact hs.bd q o' hq
theorem zpX {hS : H} {id : Ev.P} (h : zkn hS id = true) : hS.n.toNat <= id.toNat \/ hS.t.get id = some .dead := by
 unfold zkn at h
 rw [zby] at h
 cases hp : pLe hS.n id with
 | true => exact .inl (by simpa [pLe] using hp)
 | false =>
  rw [hp] at h
  have h : (match hS.t.get id with | some .dead => true | _ => false) = true := h
  split at h
  ·rename_i h1; exact .inr h1
  ·simp at h
theorem zkj {Y : Ty} (hY : TyOk P Y) {o : Oper} {i : IOp} (hc : cOp Y o.op = some i) {fr : Fr} {h hS : H} (hm : zfx i fr hS = true) {k : KV} {e : Nat} (hr : evI i fr h k e = 0) (he : e ≠ 0) :
  ∃ v h', k v h' = 0 /\ (∀ (E : Env) (ρ : Rho) (a : Act) (w : World), yF E ρ h.n.toNat fr a.tmps -> Sat E ρ h w -> zfQ E P o a ρ h w v h') /\
   ((∀ p o, hS.t.get p = some o -> p.toNat < hS.n.toNat) -> hS.n.toNat <= h.n.toNat -> zer hS h -> zer hS h') := by
 rcases zkw i fr h with h1 | ⟨v, h', h1⟩
 ·exact absurd ((h1 k e).symm.trans hr) he
 ·let k' : KV := fun v2 h2 => @ite _ (v2 = v /\ h2 = h') (Classical.propDecidable _) 0 1
  have hk' : evI i fr h k' 1 = 0 := (h1 _ _).trans (by simp [k'])
  have hkd : ∀ v2 h2, k' v2 h2 = 0 -> h2 = h' := by
   intro v2 h2 hk
   by_cases hc : v2 = v /\ h2 = h'
   ·exact hc.2
   ·simp only [k'] at hk; rw [if_neg hc] at hk; simp at hk
  refine ⟨v, h', by rw [<- h1 k e]; exact hr, fun E ρ a w hf hs => ?_, fun hb hn hke => ?_⟩
  ·obtain ⟨v2, h2, hp, hk⟩ := zo2 hY hc hk' (by simp) hf hs
   by_cases hc : v2 = v /\ h2 = h'
   ·rw [hc.1, hc.2] at hp; exact hp
   ·simp only [k'] at hk; rw [if_neg hc] at hk; simp at hk
  ·have add : ∀ oo, h.add oo = h' -> zer hS h' := by
    rintro oo rfl p o hp hl
    have h2 := hke p o hp hl
    have h3 := hb p o hp
    simp only [H.add, get_set]
    rw [if_neg (by omega)]; exact h2
   have newk : ∀ t l (vv : Ev.P -> V), newR h t l vv k' 1 = 0 -> zer hS h' := by
    intro t l vv hr
    obtain ⟨_, hr⟩ := zN hr (by simp)
    rw [zaH] at hr
    exact add _ (hkd _ _ hr)
   have put : ∀ id oo, zkn hS id = true -> h.put id oo = h' -> zer hS h' := by
    rintro id oo hd rfl p o hp hl
    have h2 := hke p o hp hl
    simp only [H.put, get_set]
    rw [if_neg ?_]; exact h2
    intro e
    have e := Ev.P.toNat_inj e
    subst e
    rcases zpX hd with h3 | h3
    ·have := hb _ o hp; omega
    ·rw [hp] at h3; cases h3; simp [O.live] at hl
   cases i <;> simp only [zfx] at hm <;> try (simp at hm; done)
   case new t l => exact newk t l _ hk'
   case box t x =>
    obtain ⟨v, hv, hr⟩ := ya (show oc (od x fr) _ 1 = 0 from hk') (by simp)
    exact newk t _ _ hr
   case bsl t n z ps =>
    obtain ⟨l, hl, hr⟩ := ya (show oc (fill fr z ps) _ 1 = 0 from hk') (by simp)
    exact newk t _ _ hr
   case st n a x =>
    have hk' : bc (Nat.beq n 1) (eSt1 a x) (eStN n a x) fr h k' 1 = 0 := hk'
    cases hb1 : Nat.beq n 1 with
    | true =>
     rw [hb1] at hk'
     have hr : eSt1 a x fr h k' 1 = 0 := hk'
     obtain ⟨id, off, hp, hr⟩ := zcw hr (by simp)
     obtain ⟨v, hv, hr⟩ := ya hr (by simp)
     obtain ⟨hmm, hr⟩ := zN hr (by simp)
     obtain ⟨oo, ho, hr⟩ := ya hr (by simp)
     obtain ⟨hone, hr⟩ := zN hr (by simp)
     obtain ⟨o', hp', hr⟩ := zou hr (by simp)
     rw [zaG] at hr
     rw [hp] at hm
     exact put id o' hm (hkd _ _ hr)
    | false =>
     rw [hb1] at hk'
     have hr : eStN n a x fr h k' 1 = 0 := hk'
     obtain ⟨id, off, hp, hr⟩ := zcw hr (by simp)
     obtain ⟨v, hv, hr⟩ := ya hr (by simp)
     obtain ⟨hmm, hr⟩ := zN hr (by simp)
     obtain ⟨oo, ho, hr⟩ := ya hr (by simp)
     obtain ⟨hlen, hr⟩ := zN hr (by simp)
     obtain ⟨hone, hr⟩ := zN hr (by simp)
     obtain ⟨o', hp', hr⟩ := zj8 hr (by simp)
     rw [zaG] at hr
     rw [hp] at hm
     exact put id o' hm (hkd _ _ hr)
theorem zhO {Y : Ty} {all : List Oper} {q : Bool} {i : Nat} {r : List (Bool × Nat)} {l : List (Bool × OI)} (h : zb1 Y N all ((q, i) :: r) = some l) : ∃ o x l', nth all i = some o /\ zb0 Y N all o = some x /\ zb1 Y N all r = some l' /\ l = (q, x) :: l' := by
 simp only [zb1] at h
 split at h
 ·rename_i o r' ho hr
  split at h
  ·rename_i x hx
   simp at h; subst h
   exact ⟨o, x, r', ho, hx, hr, rfl⟩
  ·simp at h
 ·simp at h
theorem zei {all : List Oper} {o : Oper} (h : zem all o.guard = some none) : o.guard = none := by
 cases hg : o.guard with
 | none => rfl
 | some jw =>
  obtain ⟨j, want⟩ := jw
  rw [hg] at h
  simp only [zem] at h
  split at h <;> simp at h
theorem zcq {Y : Ty} (hY : TyOk P Y) {g : Ctx} (hcall : zk E P g.call) {ops : Array Oper} (hsel : Region.noSelect ops = true) {hS : H} {k : K1} : ∀ (ord : List (Bool × Nat)) (l : List (Bool × OI)) (fr : Fr) (h : H) (fa : Fa),
  zb1 Y N ops.toList ord = some l -> FaOk E fa -> zcr hS l g fr h fa k = 0 ->
  ∃ fr' h' fa', k fr' h' fa' = 0 /\ FaOk E fa' /\ ∀ listed, zbU ops ord listed = true -> ∀ {DS : List Deferred} ρ0 ρ w a QQ, hS.n.toNat <= h.n.toNat -> zer hS h -> Sat E ρ0 hS w -> (∀ p : Ev.P, p.toNat < hS.n.toNat -> ρ p = ρ0 p) -> Sat E ρ h w -> yF E ρ h.n.toNat fr (a : Act).tmps -> N <= a.tmps.size -> a.defers = DS ->
   (∀ c a w, ¬ QQ (.panic c) a w) -> (∀ a' w', At E N DS ρ h w fr' h' a' w' -> QQ .normal a' w') -> wpAnyH P .any ops QQ (Sat E ρ0 hS) ord.length listed a w
 | [], l, fr, h, fa, hl, hfa, hk => by
  simp [zb1] at hl; subst hl
  exact ⟨fr, h, fa, hk, hfa, fun listed hB {DS} ρ0 ρ w a QQ hn hke hs0 ha hs hf hN hd hp hq => wpAnyH_done (by simpa [zbU] using hB) (hq a w ⟨ρ, hf, hN, hd, hs, hs.refl E⟩) _⟩
 | (true, i) :: r, l, fr, h, fa, hl, hfa, hk => by
  obtain ⟨o, x, l2, ho, hx, hl2, rfl⟩ := zhO hl
  rw [jY, Array.getElem?_toList] at ho
  have hk : OI.go qOp hNo x g fr hS fa (fun fr _ fa => zcr hS l2 g fr h fa k) = 0 := hk
  obtain ⟨d, gg, hd, hg, hxx⟩ := zbo hx
  rcases hxx with ⟨ii, hi, rfl⟩ | ⟨cl, f0, f, ll, hop, hcal, hf0, hll, rfl⟩
  rotate_left
  ·exact absurd (show err g 63 = 0 from hk) (jM _ _)
  have hk : qOp d gg ii g fr hS fa (fun fr _ fa => zcr hS l2 g fr h fa k) = 0 := hk
  rcases zds hg hfa hk with ⟨fa1, hfa1, hk, hw⟩ | ⟨fa1, hfa1, hk, hw⟩
  ·obtain ⟨hst, hk⟩ := zN hk (jM _ _)
   obtain ⟨v, h', hk, zv⟩ := zcB hY hi hst hk (jM _ _)
   obtain ⟨fr1, hk, hput⟩ := zdg hfa1 hd hk
   obtain ⟨fr2, h2, fa2, hk2, hfa2, hr2⟩ := zcq hY hcall hsel r l2 fr1 h fa1 hl2 hfa1 hk
   refine ⟨fr2, h2, fa2, hk2, hfa2, fun listed hB {DS} ρ0 ρ w a QQ hn hke hs0 ha hs hf hN hdf hp hq => ?_⟩
   have conv : ∀ w, Sat E ρ0 hS w -> Sat E ρ hS w := fun w s => zlt (ρ0 := ρ) (h := hS) ⟨fun p o hp => O.Is_agree E (fun i hi => ha i hi) (s.bd p o hp).2 (by rw [ha p (s.bd p o hp).1]; exact s.obj p o hp),
    fun p q o o' hp hq l1 l2 he => s.inj p q o o' hp hq l1 l2 (by rw [<- ha p (s.bd p o hp).1, <- ha q (s.bd q o' hq).1]; exact he), s.bd⟩ s (fun p o hp _ => hp) (fun p hp => (ha p hp).symm)
   simp only [zbU, Bool.and_eq_true, decide_eq_true_eq] at hB
   obtain ⟨⟨⟨hlt, hfree⟩, hready⟩, hB⟩ := hB
   obtain ⟨g1, g2, g3⟩ := hput ρ _ a hf hN (zv E ρ _ a w hn hf (conv w hs0)).2
   refine wpAnyH_take (i := i) ho hsel hfree hready (fun c a w hh => absurd hh (hp c _ w)) (.inl ⟨hw ρ _ a hf, fun w' hw' => (zv E ρ _ a w' hn hf (conv w' hw')).1⟩) hs0 ?_
   exact hr2 _ hB ρ0 ρ w _ QQ hn hke hs0 ha hs g1 g2 (g3.trans hdf) hp hq
  ·obtain ⟨fr1, hk, hput⟩ := zcD hd hk
   obtain ⟨fr2, h2, fa2, hk2, hfa2, hr2⟩ := zcq hY hcall hsel r l2 fr1 h fa1 hl2 hfa1 hk
   refine ⟨fr2, h2, fa2, hk2, hfa2, fun listed hB {DS} ρ0 ρ w a QQ hn hke hs0 ha hs hf hN hdf hp hq => ?_⟩
   simp only [zbU, Bool.and_eq_true, decide_eq_true_eq] at hB
   obtain ⟨⟨⟨hlt, hfree⟩, hready⟩, hB⟩ := hB
   obtain ⟨g1, g2, g3⟩ := hput E ρ h.n.toNat a hf hN (by trivial)
   refine wpAnyH_take (i := i) ho hsel hfree hready (fun c a w hh => absurd hh (hp c _ w)) (.inr ⟨hw ρ _ a hf, rfl⟩) hs0 ?_
   exact hr2 _ hB ρ0 ρ w _ QQ hn hke hs0 ha hs g1 g2 (g3.trans hdf) hp hq
 | (false, i) :: r, l, fr, h, fa, hl, hfa, hk => by
  obtain ⟨o, x, l2, ho, hx, hl2, rfl⟩ := zhO hl
  rw [jY, Array.getElem?_toList] at ho
  have hk : OI.go (hOp hS) (hCall hS) x g fr h fa (fun fr h fa => zcr hS l2 g fr h fa k) = 0 := hk
  obtain ⟨d, gg, hd, hg, hxx⟩ := zbo hx
  have one : ∀ fr1 h1 fa1, FaOk E fa1 -> o.guard = none -> zcr hS l2 g fr1 h1 fa1 k = 0 ->
    (∀ {DS : List Deferred} ρ w a QQ, (∀ p o, hS.t.get p = some o -> p.toNat < hS.n.toNat) -> hS.n.toNat <= h.n.toNat -> zer hS h -> Sat E ρ h w -> yF E ρ h.n.toNat fr (a : Act).tmps -> N <= a.tmps.size -> a.defers = DS -> o.wp P a w (fun a1 w1 => At E N DS ρ h w fr1 h1 a1 w1 /\ zer hS h1) QQ) ->
    ∃ fr' h' fa', k fr' h' fa' = 0 /\ FaOk E fa' /\ ∀ listed, zbU ops ((false, i) :: r) listed = true -> ∀ {DS : List Deferred} ρ0 ρ w a QQ, hS.n.toNat <= h.n.toNat -> zer hS h -> Sat E ρ0 hS w -> (∀ p : Ev.P, p.toNat < hS.n.toNat -> ρ p = ρ0 p) -> Sat E ρ h w -> yF E ρ h.n.toNat fr (a : Act).tmps -> N <= a.tmps.size -> a.defers = DS ->
     (∀ c a w, ¬ QQ (.panic c) a w) -> (∀ a' w', At E N DS ρ h w fr' h' a' w' -> QQ .normal a' w') -> wpAnyH P .any ops QQ (Sat E ρ0 hS) ((false, i) :: r).length listed a w := by
   intro fr1 h1 fa1 hfa1 hgd hk1 hstep
   obtain ⟨fr2, h2, fa2, hk2, hfa2, hr2⟩ := zcq hY hcall hsel r l2 fr1 h1 fa1 hl2 hfa1 hk1
   refine ⟨fr2, h2, fa2, hk2, hfa2, fun listed hB {DS} ρ0 ρ w a QQ hn hke hs0 ha hs hf hN hdf hp hq => ?_⟩
   simp only [zbU, Bool.and_eq_true, decide_eq_true_eq] at hB
   obtain ⟨⟨hlt, hready⟩, hB⟩ := hB
   refine wpAnyH_all hready (by simp) fun j hj => ?_
   have hj : j = i := by simpa using hj
   subst hj
   unfold wpOp
   simp only [ho]
   rw [if_pos (by simp [Region.wanted, hgd])]
   refine .inl (zgB ?_ (hstep ρ w a QQ (fun p o hp => (hs0.bd p o hp).1) hn hke hs hf hN hdf))
   rintro a1 w1 ⟨⟨ρ1, f1, n1, d1, s1, x1⟩, hke1⟩
   have ha1 : ∀ p : Ev.P, p.toNat < hS.n.toNat -> ρ1 p = ρ0 p := fun p hp => by rw [x1.agree p (by omega), ha p hp]
   have hs1 : Sat E ρ0 hS w1 := zlt hs0 s1 hke1 ha1
   exact ⟨hs1, hr2 _ hB ρ0 ρ1 w1 a1 QQ (Nat.le_trans hn x1.len) hke1 hs1 ha1 s1 f1 n1 d1 hp (fun a' w' hA => hq a' w' (hA.trans x1))⟩
  rcases hxx with ⟨ii, hi, rfl⟩ | ⟨cl, f0, f, ll, hop, hcal, hf0, hll, rfl⟩
  ·have hk : oc gg (fun _ => err g 60) (bc (zfx ii fr hS) (evI ii fr h (fun v h => zcV d fa v fr (fun fr => zcr hS l2 g fr h fa k)) (err g (zcc ii))) (bc (yD ii) (evI ii fr h (fun v _ => zcV d fa v fr (fun fr => zcr hS l2 g fr h fa k)) (err g (zcc ii))) (err g 61))) = 0 := hk
   cases gg with
   | some gg => exact absurd (show err g 60 = 0 from hk) (jM _ _)
   | none =>
    have hk : bc (zfx ii fr hS) (evI ii fr h (fun v h => zcV d fa v fr (fun fr => zcr hS l2 g fr h fa k)) (err g (zcc ii))) (bc (yD ii) (evI ii fr h (fun v _ => zcV d fa v fr (fun fr => zcr hS l2 g fr h fa k)) (err g (zcc ii))) (err g 61)) = 0 := hk
    cases hmk : zfx ii fr hS with
    | false =>
     rw [hmk] at hk
     obtain ⟨hst, hk⟩ := zN (show bc (yD ii) _ _ = 0 from hk) (jM _ _)
     obtain ⟨v, _, hk, zv⟩ := zcB hY hi hst hk (jM _ _)
     obtain ⟨fr1, hk, hput⟩ := zdg hfa hd hk
     refine one fr1 h fa hfa (zei hg) hk fun {DS} ρ w a QQ hbd hn hke hs hf hN hdf => ?_
     obtain ⟨q1, q2⟩ := zv E ρ _ a w (Nat.le_refl _) hf hs
     obtain ⟨g1, g2, g3⟩ := hput ρ _ a hf hN q2
     unfold Oper.wp
     rw [q1]
     exact ⟨⟨ρ, g1, g2, g3.trans hdf, hs, hs.refl E⟩, hke⟩
    | true =>
    rw [hmk] at hk
    have hk : evI ii fr h (fun v h => zcV d fa v fr (fun fr => zcr hS l2 g fr h fa k)) (err g (zcc ii)) = 0 := hk
    obtain ⟨v, h1, hk, zv, hkeep⟩ := zkj hY hi hmk hk (jM _ _)
    obtain ⟨fr1, hk, hput⟩ := zdg hfa hd hk
    refine one fr1 h1 fa hfa (zei hg) hk fun {DS} ρ w a QQ hbd hn hke hs hf hN hdf => ?_
    obtain ⟨ρ', w', nx, hr, hnx, hs', hx', hb⟩ := zv E ρ a w hf hs
    obtain ⟨g1, g2, g3⟩ := hput ρ' _ a (hf.mono hx'.len hx'.agree) hN hb
    unfold Oper.wp
    rw [hr]
    have hgo : At E N DS ρ h w fr1 h1 (a.put o.dst (v.γ E ρ')) w' /\ zer hS h1 := ⟨⟨ρ', g1, g2, g3.trans hdf, hs', hx'⟩, hkeep hbd hn hke⟩
    rcases hnx with rfl | ⟨rfl, rfl⟩
    ·exact hgo
    ·exact hgo
  ·have hk : oc gg (fun _ => err g 62) (hc h (fun n lo t => hc hS (fun m _ _ => bc (pLe lo m) (zd6 f ll g fr ⟨n, m, t⟩ fa (fun v h' fa => hc h' (fun n' _ t' => zdh d v fr (fun fr => zcr hS l2 g fr ⟨n', lo, t'⟩ fa k)))) (err g 65)))) = 0 := hk
   cases gg with
   | some gg => exact absurd (show err g 62 = 0 from hk) (jM _ _)
   | none =>
    have hk : hc h (fun n lo t => hc hS (fun m _ _ => bc (pLe lo m) (zd6 f ll g fr ⟨n, m, t⟩ fa (fun v h' fa => hc h' (fun n' _ t' => zdh d v fr (fun fr => zcr hS l2 g fr ⟨n', lo, t'⟩ fa k)))) (err g 65))) = 0 := hk
    rw [zby, zby] at hk
    obtain ⟨hlo, hk⟩ := zN hk (jM _ _)
    have hlo : h.lo.toNat <= hS.n.toNat := by simpa [pLe] using hlo
    obtain ⟨F, vl, v, h1, fa1, hk, hfa1, hr, hdo⟩ := zmF hop hcal hf0 hll hcall hfa hk
    rw [zby] at hk
    obtain ⟨fr1, hk, hput⟩ := zcD hd hk
    refine one fr1 ⟨h1.n, h.lo, h1.t⟩ fa1 hfa1 (zei hg) hk fun {DS} ρ w a QQ hbd hn hke hs hf hN hdf => ?_
    obtain ⟨hvb, hex⟩ := hr ρ _ a hf
    unfold Oper.wp
    rw [hex, Oper.upon_enter]
    refine (hdo ρ w hvb ⟨hs.obj, hs.inj, hs.bd⟩).mono ?_
    rintro e w' ⟨ρ', rfl, hs', hx', hb⟩
    have hx2 : Ext ρ h w ρ' ⟨h1.n, h.lo, h1.t⟩ w' := by
     refine ⟨hx'.len, rfl, hx'.agree, fun p o hp hg hl => ?_, hx'.os, hx'.tape, hx'.output, hx'.size, fun b hb hno => hx'.keep b hb fun p o hp hl hlo2 => hno p o hp hl (Nat.le_trans hlo hlo2), fun p hp hq => hx'.old p (Nat.lt_of_lt_of_le hp hlo) hq, hx'.liv⟩
     rcases hx'.new p o hp hg hl with h3 | ⟨q, o', h3, h4, h5, h6⟩
     ·exact .inl h3
     ·exact .inr ⟨q, o', h3, h4, Nat.le_trans hlo h5, h6⟩
    obtain ⟨g1, g2, g3⟩ := hput E ρ' _ a (hf.mono hx2.len hx2.agree) hN hb
    refine ⟨⟨ρ', g1, g2, g3.trans hdf, ⟨hs'.obj, hs'.inj, hs'.bd⟩, hx2⟩, fun p o hp hl => ?_⟩
    have hpS := hbd p o hp
    have := hx'.old p hpS (show p.toNat < h.n.toNat by omega)
    show h1.t.get p = some o
    rw [this]; exact hke p o hp hl
theorem zsR {Y : Ty} (hY : TyOk P Y) (hm : P.follows .mixedOrders = true) {g : Ctx} (hcall : zk E P g.call) {id : Nat} {ops : Array Oper} {bs : List Nat} {ord : List (Bool × Nat)} (hB : heldB ops ord = true)
  {l : List (Bool × OI)} (hl : zb1 Y N ops.toList ord = some l) {fr : Fr} {h : H} {fa : Fa} {k : K2} (hfa : FaOk E fa) (hk : cHops (bs.map zA) l g fr h fa k = 0) : Runs E P N (.region id ops true) fr h k := by
 simp only [heldB, Bool.and_eq_true, decide_eq_true_eq] at hB
 obtain ⟨⟨hsel, hlen⟩, hgo⟩ := hB
 obtain ⟨hS, hk, hSn, hke, hSat⟩ := zhK (jM _ _) bs h _ hk
 obtain ⟨fr1, h1, fa1, hk1, hfa1, hr⟩ := zcq hY hcall hsel ord l fr h fa hl hfa hk
 refine ⟨.normal, fr1, h1, fa1, hk1, hfa1, fun {DS} ρ w a QQ hs hf hN hd hQ => ?_⟩
 have hs1 : Sat E ρ h { w with drawn := w.drawn + 1 } := ⟨hs.obj, hs.inj, hs.bd⟩
 have hx1 : Ext ρ h w ρ h { w with drawn := w.drawn + 1 } := ze2 hs
 refine Go.wp_mono (Q := fun e a' w' => e = .normal /\ At E N DS ρ h w fr1 h1 a' w') (wp_region_held (S := Sat E ρ hS) hm ?_) (fun e a' w' ⟨he, hA⟩ => by rw [he]; exact hQ a' w' hA)
 have key := hr _ hgo ρ ρ _ a (fun e a' w' => e = .normal /\ At E N DS ρ h w fr1 h1 a' w') (by rw [hSn]; exact Nat.le_refl _) hke (hSat E ρ _ _ hf hs1) (fun _ _ => rfl) hs1 hf hN hd (fun c a w hh => (by cases hh.1)) (fun a' w' hA => ⟨rfl, hA.trans hx1⟩)
 rw [hlen] at key
 exact key
theorem zhZ {id : Nat} {ops : Array Oper} {Q : Exit -> Act -> World -> Prop} {C : World -> Prop} {a : Act} {w : World} (n : Nat) (ord : List (Bool × Nat)) (hm : P.follows .mixedOrders = true) (hB : mixB ops n ord = true) (hC : C { w with drawn := w.drawn + 1 })
  (h : wpQuiet P ops C (fun a' => ∀ w' listed, C w' -> zbU ops ord listed = true -> wpAny P .any ops Q ord.length listed a' w') (ops.toList.take n) a) : (Code.region id ops true).wp P Q a w := by
 simp only [mixB, Bool.and_eq_true, decide_eq_true_eq] at hB
 obtain ⟨⟨⟨⟨⟨hsel, hn⟩, hs⟩, hc⟩, hsz⟩, hlex⟩ := hB
 have hlen : (ops.toList.take n).length = n := by simp; omega
 have inv : HeadInv .any ops n (Array.replicate ops.size false) :=
  ⟨by simp, fun j oj _ hl => by rw [getD_replicate_false] at hl; simp at hl, fun t _ ht => getD_in (by simpa using ht) (getD_replicate_false _ _)⟩
 have h1 := EvQ.headQ_lexF (P := P) (C := C) (md := .any) (n := n) (F := mixG ops n ord)
  (fun listed hF j hj => by
   simp only [mixG, Bool.and_eq_true, List.all_eq_true, decide_eq_true_eq] at hF
   exact hF.1 j hj)
  hsel (fun listed inv i hi hun t ht => EvQ.tailB_waits hs hc hn inv _ i rfl hi hun t ht) (ops.toList.take n) 0 _ a (fun j hj => by
  have hj : j < n := by omega
  simp [List.getElem?_take, hj]) (by simpa using hlen) inv (by rw [hlen]; exact hlex) h
 rw [hlen] at h1
 refine wp_region_any hm ?_
 rw [show wpAny P .any ops Q ops.size = wpAny P .any ops Q (n + ord.length) from by rw [hsz]]
 refine EvQ.headQ_any (C := C) (fun listed a' w' hw' hL => ?_) n _ a _ hC h1
 obtain ⟨⟨hF, _⟩, hK⟩ := hL
 simp only [mixG, Bool.and_eq_true] at hF
 exact hK w' listed hw' hF.2
theorem mix_run {Y : Ty} (hY : TyOk P Y) (hm : P.follows .mixedOrders = true) {g : Ctx} (hcall : zk E P g.call) {id : Nat} {ops : Array Oper} {n : Nat} {bs : List Nat} {ord : List (Bool × Nat)} (hB : mixB ops n ord = true)
  {hd : List OI} (hhd : jx Y N ops.toList (ops.toList.take n) = some hd) {l : List (Bool × OI)} (hl : zb1 Y N ops.toList ord = some l) {fr : Fr} {h : H} {fa : Fa} {k : K2} (hfa : FaOk E fa)
  (hk : zg8 hd g fr h fa (fun fr h fa => cHops (bs.map zA) l g fr h fa k) = 0) : Runs E P N (.region id ops true) fr h k := by
 obtain ⟨fr0, fa0, hk, hfa0, hq⟩ := zck hY hcall _ _ fr fa hhd hfa hk
 obtain ⟨hS, hk, hSn, hke, hSat⟩ := zhK (jM _ _) bs h _ hk
 have hsel : Region.noSelect ops = true := by
  simp only [mixB, Bool.and_eq_true] at hB; exact hB.1.1.1.1.1
 obtain ⟨fr1, h1, fa1, hk1, hfa1, hr⟩ := zcq hY hcall hsel ord l fr0 h fa0 hl hfa0 hk
 refine ⟨.normal, fr1, h1, fa1, hk1, hfa1, fun {DS} ρ w a QQ hs hf hN hd hQ => ?_⟩
 have hs1 := zg3 hs
 have hC1 : Cls E ρ h w.drew { w with drawn := w.drawn + 1 } := ⟨hs1, hs1.refl E⟩
 refine Go.wp_mono (Q := fun e a' w' => e = .normal /\ At E N DS ρ h w fr1 h1 a' w') (zhZ n ord hm hB hC1 ?_) (fun e a' w' ⟨he, hA⟩ => by rw [he]; exact hQ a' w' hA)
 refine hq ρ w.drew a _ hs1 hf hN hd fun a2 f2 n2 d2 w2 listed hw2 hgo => wpAny_of_held (S := Sat E ρ hS) _ _ _ _ ?_
 exact hr listed hgo ρ ρ w2 a2 (fun e a' w' => e = .normal /\ At E N DS ρ h w fr1 h1 a' w') (by rw [hSn]; exact Nat.le_refl _) hke (hSat E ρ _ _ f2 hw2.1) (fun _ _ => rfl) hw2.1 f2 n2 d2 (fun c a w hh => (by cases hh.1)) (fun a' w' hA => ⟨rfl, hA.trans ((ze2 hs).trans hw2.2)⟩)
theorem zqO {Y : Ty} (hY : TyOk P Y) (hm : P.follows .mixedOrders = true) {g : Ctx} (hcall : zk E P g.call) {id : Nat} {ops : Array Oper} {m : Nat} {tl : List Nat} (hB : zgM ops m tl = true)
  {hd t : List OI} (h1 : jx Y N ops.toList (ops.toList.take m) = some hd) (h2 : jx Y N ops.toList (EvQ.pick ops tl) = some t) (hno : tl = [] -> ops.size <= m)
  {fr : Fr} {h : H} {fa : Fa} {k : K2} (hfa : FaOk E fa) (hk : zg8 hd g fr h fa (fun fr h fa => opsT t g fr h fa (fun fr h fa => k .normal fr h fa)) = 0) : Runs E P N (.region id ops true) fr h k := by
 obtain ⟨fr1, fa1, hk1, hfa1, hq⟩ := zck hY hcall _ _ fr fa h1 hfa hk
 obtain ⟨fr2, h2', fa2, hk2, hfa2, ho⟩ := zhh hY hcall _ _ fr1 h fa1 h2 hfa1 hk1
 refine ⟨.normal, fr2, h2', fa2, hk2, hfa2, fun {DS} ρ w a QQ hs hf hN hd hQ => ?_⟩
 have hs1 := zg3 hs
 have hC1 : Cls E ρ h w.drew { w with drawn := w.drawn + 1 } := ⟨hs1, hs1.refl E⟩
 have fin : ∀ a', yF E ρ h.n.toNat fr1 (a' : Act).tmps -> N <= a'.tmps.size -> a'.defers = DS -> ∀ w', Cls E ρ h w.drew w' -> wpList P ops QQ (EvQ.pick ops tl) a' w' := by
  intro a' hf' hN' hd' w' hw'
  refine ho ρ w' a' QQ hw'.1 hf' hN' hd' (fun a2 w2 hA => hQ a2 w2 (hA.trans ((ze2 hs).trans hw'.2)))
 have hgo := hq ρ w.drew a (fun a' => ∀ w', Cls E ρ h w.drew w' -> wpList P ops QQ (EvQ.pick ops tl) a' w') hs1 hf hN hd fin
 simp only [zgM, Bool.or_eq_true, Bool.and_eq_true, decide_eq_true_eq, List.isEmpty_iff] at hB
 rcases hB with (hB | ⟨⟨hle, rfl⟩, hB⟩) | ⟨rfl, hB⟩
 ·exact EvQ.wp_region_head m tl hm hB hC1 hgo
 ·have hle' : ops.toList.length <= m := by simpa using hle
  rw [List.take_of_length_le hle'] at hgo
  refine wp_region_quiet hm hB hC1 ?_
  exact hgo
 ·simp only [EvQ.lexTwo, Bool.and_eq_true, decide_eq_true_eq] at hB
  have hn : m < ops.size := hB.1.1.1.2
  have := hno rfl
  omega
theorem two_run {Y : Ty} (hY : TyOk P Y) (hm : P.follows .mixedOrders = true) {g : Ctx} (hcall : zk E P g.call) {id : Nat} {ops : Array Oper} {m : Nat} {o : Oper} (ho : ops[m]? = some o) (hB : zgM ops m [] = true)
  {hd r : List OI} {i : OI} (h1 : jx Y N ops.toList (ops.toList.take m) = some hd) (h2 : zb0 Y N ops.toList o = some i) (h3 : jx Y N ops.toList (ops.toList.drop (m + 1)) = some r)
  {fr : Fr} {h : H} {fa : Fa} {k : K2} (hfa : FaOk E fa) (hk : zg8 hd g fr h fa (fun fr h fa => opsT [i] g fr h fa (fun fr h fa => zg8 r g fr h fa (fun fr h fa => k .normal fr h fa))) = 0) : Runs E P N (.region id ops true) fr h k := by
 obtain ⟨fr1, fa1, hk1, hfa1, hq⟩ := zck hY hcall _ _ fr fa h1 hfa hk
 obtain ⟨fr2, h2', fa2, hk2, hfa2, hs2⟩ := zgN hY h2 hcall hfa1 hk1
 obtain ⟨fr3, fa3, hk3, hfa3, hq3⟩ := zck hY hcall _ _ fr2 fa2 h3 hfa2 hk2
 refine ⟨.normal, fr3, h2', fa3, hk3, hfa3, fun {DS} ρ w a QQ hs hf hN hd hQ => ?_⟩
 have hs1 := zg3 hs
 have hC1 : Cls E ρ h w.drew { w with drawn := w.drawn + 1 } := ⟨hs1, hs1.refl E⟩
 have hm2 : m < ops.size := (Array.getElem?_eq_some_iff.1 ho).1
 have hB : EvQ.lexTwo .any ops m = true := by
  simp only [zgM, Bool.or_eq_true, Bool.and_eq_true, decide_eq_true_eq, List.isEmpty_iff] at hB
  rcases hB with (hB | ⟨⟨hle, _⟩, _⟩) | ⟨_, hB⟩
  ·simp only [EvQ.lexTailP, Bool.and_eq_true, decide_eq_true_eq, List.length_nil] at hB
   omega
  ·omega
  ·exact hB
 refine EvQ.wp_region_two (C := Cls E ρ h w.drew) m hm hB hC1 ?_
 refine hq ρ w.drew a _ hs1 hf hN hd fun a1 f1 n1 d1 w1 hw1 => ?_
 have after : ∀ a2 w2, At E N DS ρ h w1 fr2 h2' a2 w2 -> ∃ C2 : World -> Prop, C2 w2 /\ wpQuiet P ops C2 (fun a3 => ∀ w3, C2 w3 -> QQ .normal a3 w3) (ops.toList.drop (m + 1)) a2 := by
  rintro a2 w2 ⟨ρ2, f2, n2, d2, s2, x2⟩
  refine ⟨Cls E ρ2 h2' w2, ⟨s2, s2.refl E⟩, ?_⟩
  refine hq3 ρ2 w2 a2 _ s2 f2 n2 d2 fun a3 f3 n3 d3 w3 hw3 => ?_
  exact hQ a3 w3 ⟨ρ2, f3, n3, d3, hw3.1, ((ze2 hs).trans hw1.2).trans (x2.trans hw3.2)⟩
 unfold wpOp
 simp only [ho]
 rcases hs2 ρ w1 a1 QQ hw1.1 f1 n1 d1 with ⟨hw, hwp⟩ | ⟨hw, hA⟩
 ·rw [if_pos hw]
  exact .inl (zgB after hwp)
 ·rw [if_neg (by simp [hw])]
  exact after _ _ hA
theorem znj {ρ : Rho} {h : H} {w : World} (s : Sat E ρ h w) (o : Obj) : Sat E ρ h (w.alloc o) :=
 ⟨fun p x hp => O.Is_heap E (fun hl => by rw [zY, Array.getElem?_push, if_neg (by have := s.lt E hp hl; omega)]) (s.obj p x hp), s.inj, s.bd⟩
theorem znQ {ρ : Rho} {h : H} {w : World} (s : Sat E ρ h w) (o : Obj) : Ext ρ h w ρ h (w.alloc o) :=
 ⟨Nat.le_refl _, rfl, fun _ _ => rfl, fun p x h1 h2 => by have := (s.bd p x h2).1; omega, rfl, rfl, rfl, by simp [zY], fun b hb _ => by rw [zY, Array.getElem?_push, if_neg (by omega)], fun _ _ _ => rfl, fun p x _ h1 h2 => ⟨x, h1, h2⟩⟩
def zmX (ob : Obj) (s0 b : Nat) (ρ : Rho) (h : H) (w : World) : Prop := w.heap[b]? = some ob /\ s0 <= b /\ ∀ p o, h.t.get p = some o -> o.live = true -> (ρ p).b ≠ b
theorem zmX.step {ob : Obj} {s0 b : Nat} {ρ ρ1 : Rho} {h h1 : H} {w w1 : World} (c : zmX ob s0 b ρ h w) (x : Ext ρ h w ρ1 h1 w1) : zmX ob s0 b ρ1 h1 w1 := by
 obtain ⟨c1, c2, c3⟩ := c
 have hb : b < w.heap.size := jn c1
 refine ⟨by rw [x.keep b hb (fun p o hp hl _ => c3 p o hp hl)]; exact c1, c2, fun p o hp hl => ?_⟩
 by_cases hn : p.toNat < h.n.toNat
 ·obtain ⟨o', h2, h3⟩ := x.liv p o hn hp hl
  rw [x.agree p hn]; exact c3 p o' h2 h3
 ·rcases x.new p o (by omega) hp hl with h2 | ⟨q', o', h2, h3, _, h4⟩
  ·omega
  ·rw [<- h4]; exact c3 q' o' h2 h3
def actQ (vl : Nat -> Value) (d : Option Tmp) (lq : Option Nat) (a : Act) : Act := match lq with
 | none => a
 | some b => a.put d (vl b)
def celQ (ob : Obj) (s0 : Nat) (lq : Option Nat) (ρ : Rho) (h : H) (w : World) : Prop := match lq with
 | none => True
 | some b => zmX ob s0 b ρ h w
theorem celQ.step {ob : Obj} {s0 : Nat} {lq : Option Nat} {ρ ρ1 : Rho} {h h1 : H} {w w1 : World} (c : celQ ob s0 lq ρ h w) (x : Ext ρ h w ρ1 h1 w1) : celQ ob s0 lq ρ1 h1 w1 := by
 cases lq with
 | none => trivial
 | some b => exact zmX.step c x
def AtQ (E : Env) (N : Nat) (DS : List Deferred) (ob : Obj) (s0 : Nat) (lq : Option Nat) (ρ : Rho) (h : H) (w : World) (fr' : Fr) (h' : H) (a' : Act) (w' : World) : Prop :=
 ∃ ρ', yF E ρ' h'.n.toNat fr' a'.tmps /\ N <= a'.tmps.size /\ a'.defers = DS /\ Sat E ρ' h' w' /\ Ext ρ h w ρ' h' w' /\ celQ ob s0 lq ρ' h' w'
theorem AtQ.trans {DS : List Deferred} {ob : Obj} {s0 : Nat} {lq : Option Nat} {ρ ρ1 : Rho} {h h1 : H} {w w1 : World} (hx : Ext ρ h w ρ1 h1 w1) {fr : Fr} {h' : H} {a : Act} {w' : World} (s : AtQ E N DS ob s0 lq ρ1 h1 w1 fr h' a w') : AtQ E N DS ob s0 lq ρ h w fr h' a w' := by
 obtain ⟨ρ', s1, s2, s3, s4, s5, s6⟩ := s
 exact ⟨ρ', s1, s2, s3, s4, hx.trans s5, s6⟩
structure MakesQ (P : Program) (ops : Array Oper) (q : Nat) (oq : Oper) (ob : Obj) (vl : Nat -> Value) : Prop where
 at_ : ops[q]? = some oq
 guard : oq.guard = none
 run : ∀ (a : Act) (w : World), (execOp a.eval oq).run P w = .ok (.value (vl w.heap.size)) (w.alloc ob)
theorem MakesQ.op {ops : Array Oper} {q : Nat} {oq : Oper} {ob : Obj} {vl : Nat -> Value} (m : MakesQ P ops q oq ob vl) {QQ : Exit -> Act -> World -> Prop} {K : Act -> World -> Prop} {a : Act} {w : World}
  (h : K (actQ vl oq.dst (some w.heap.size) a) (w.alloc ob)) : wpOp P ops QQ q K a w := by
 unfold wpOp
 simp only [m.at_]
 rw [if_pos (by simp [Region.wanted, m.guard])]
 refine .inl ?_
 unfold Oper.wp
 rw [m.run]
 exact h
def AtS (E : Env) (N : Nat) (DS : List Deferred) (ob : Obj) (s0 : Nat) (ρ0 : Rho) (hS : H) (lq : Option Nat) (ρ : Rho) (h : H) (w : World) (fr' : Fr) (h' : H) (a' : Act) (w' : World) : Prop :=
 ∃ ρ', yF E ρ' h'.n.toNat fr' a'.tmps /\ N <= a'.tmps.size /\ a'.defers = DS /\ Sat E ρ' h' w' /\ Ext ρ h w ρ' h' w' /\ celQ ob s0 lq ρ' h' w' /\ s0 <= w'.heap.size /\ hS.n.toNat <= h'.n.toNat /\ zer hS h' /\ Sat E ρ0 hS w' /\ ∀ p : Ev.P, p.toNat < hS.n.toNat -> ρ' p = ρ0 p
theorem AtS.trans {DS : List Deferred} {ob : Obj} {s0 : Nat} {ρ0 : Rho} {hS : H} {lq : Option Nat} {ρ ρ1 : Rho} {h h1 : H} {w w1 : World} (hx : Ext ρ h w ρ1 h1 w1) {fr : Fr} {h' : H} {a : Act} {w' : World} (s : AtS E N DS ob s0 ρ0 hS lq ρ1 h1 w1 fr h' a w') : AtS E N DS ob s0 ρ0 hS lq ρ h w fr h' a w' := by
 obtain ⟨ρ', s1, s2, s3, s4, s5, s6⟩ := s
 exact ⟨ρ', s1, s2, s3, s4, hx.trans s5, s6⟩
end Go.Ev
end
set_option linter.unusedSimpArgs false
set_option linter.unusedVariables false
noncomputable section
namespace Go.Ev
open Go
variable {E : Env} {P : Program} {N : Nat}
def FrAt (E : Env) (ρ : Rho) (n : Nat) (FR : Fr) (tmps : Array Value) (sl : List Nat) : Prop := ∀ t ∈ sl, ∀ v, FR.get (zA t) = some v -> tmps[t]? = some (v.γ E ρ) /\ v.bd n
structure MapSt (ops : Array Oper) (qs cs : List (Nat × List Nat)) (q dq : Nat) (ins : List (Nat × List Nat)) (ty : TypeId) (n0 : Nat) : Prop where
 le : n0 <= ops.size
 q0 : q < n0
 nd : (qs.map (·.1) ++ (cs.map (·.1) ++ q :: ins.map (·.1))).Nodup
 cov : ∀ i, i < n0 -> i ∈ qs.map (·.1) ++ (cs.map (·.1) ++ q :: ins.map (·.1))
 low : ∀ i, i < n0 -> ∀ j ∈ EvQ.edgesOf ops i, j < i
 lt : ∀ x ∈ qs ++ (cs ++ ins), x.1 < n0
 sl : ∀ x ∈ qs ++ (cs ++ ins), ∀ t ∈ x.2, t ≠ dq /\ ∀ j o, ops[j]? = some o -> o.dst = some t -> j ∈ EvQ.edgesOf ops x.1
 ch : ∀ p a b r, cs = p ++ a :: b :: r -> a.1 ∈ EvQ.edgesOf ops b.1
 insq : ∀ x ∈ ins, q ∈ EvQ.edgesOf ops x.1
 dst : ∀ i j o o' t, i < n0 -> j < n0 -> ops[i]? = some o -> ops[j]? = some o' -> o.dst = some t -> o'.dst = some t -> i = j
 tl : ∀ i, n0 <= i -> i < ops.size -> ∀ j, j < n0 -> j ∈ EvQ.edgesOf ops i
def kvA (kvl : List (V × V)) (n : Nat) : V × V := kvl.getD n (.nil, .nil)
def DstOk (E : Env) (N : Nat) (FR : Fr) (o : Oper) (v : V) : Prop := ∀ t, o.dst = some t -> t < N /\ ∃ u, FR.get (zA t) = some u /\ ∀ ρ n, v.bd n -> u.γ E ρ = v.γ E ρ /\ u.bd n
inductive Ch (E : Env) (P : Program) (N : Nat) (ops : Array Oper) (FR : Fr) (hS : H) : List (Nat × List Nat) -> H -> H -> Prop where
 | nil (h : H) : Ch E P N ops FR hS [] h h
 | cons {x : Nat × List Nat} {r : List (Nat × List Nat)} {h h1 hN : H} {o : Oper} {v : V} : ops[x.1]? = some o -> o.guard = none -> zer hS h1 -> DstOk E N FR o v ->
   (∀ ρ (a : Act) w QQ, FrAt E ρ h.n.toNat FR a.tmps x.2 -> Sat E ρ h w -> o.wp P a w (fun a1 w1 => ∃ ρ1, a1 = a.put o.dst (v.γ E ρ1) /\ Sat E ρ1 h1 w1 /\ Ext ρ h w ρ1 h1 w1 /\ v.bd h1.n.toNat) QQ) ->
   Ch E P N ops FR hS r h1 hN -> Ch E P N ops FR hS (x :: r) h hN
def MapInv (E : Env) (q dq : Nat) (ins : List (Nat × List Nat)) (kvl : List (V × V)) (w0 : World) (L : Array Bool) (lq : Option (Nat × List Nat)) (ρ : Rho) (h : H) (w : World) (a : Act) : Prop := match lq with
 | none => L.getD q true = false /\ ∀ x ∈ ins, L.getD x.1 true = false
 | some (b, ll) => L.getD q false = true /\ a.tmps[dq]? = some (.map (some b)) /\ w0.heap.size <= b /\ (∀ p o, h.t.get p = some o -> o.live = true -> (ρ p).b ≠ b) /\ ll.Nodup /\ (∀ n ∈ ll, n < ins.length) /\
  (∀ n x, ins[n]? = some x -> (n ∈ ll ↔ L.getD x.1 false = true)) /\ (∀ n ∈ ll, (kvA kvl n).1.bd h.n.toNat /\ (kvA kvl n).2.bd h.n.toNat) /\
  ∃ es : Array MapEntry, w.heap[b]? = some (.map es es.size) /\ es.toList.map (fun e => (e.key, e.val)) = (ll.map (kvA kvl)).map (fun p => (p.1.γ E ρ, p.2.γ E ρ)) /\ ∀ (i : Nat) (e : MapEntry), es[i]? = some e -> e.born = i
structure MInv (E : Env) (N : Nat) (ops : Array Oper) (cs : List (Nat × List Nat)) (q dq : Nat) (ins : List (Nat × List Nat)) (n0 : Nat) (FR : Fr) (hS : H) (kvl : List (V × V)) (DS : List Deferred) (ρ0 : Rho) (h0 : H) (w0 : World)
  (L : Array Bool) (cr : List (Nat × List Nat)) (lq : Option (Nat × List Nat)) (ρ : Rho) (h : H) (w : World) (a : Act) : Prop where
 size : L.size = ops.size
 tail : ∀ i, n0 <= i -> i < ops.size -> L.getD i true = false
 cs : ∃ p, cs = p ++ cr /\ (∀ x ∈ p, L.getD x.1 false = true) /\ ∀ x ∈ cr, L.getD x.1 true = false
 sat : Sat E ρ h w
 ext : Ext ρ0 h0 w0 ρ h w
 keep : zer hS h
 hn : hS.n.toNat <= h.n.toNat
 fr : ∀ t v, FR.get (zA t) = some v -> t ≠ dq -> (∀ j o, j < n0 -> ops[j]? = some o -> o.dst = some t -> L.getD j false = true) -> a.tmps[t]? = some (v.γ E ρ) /\ v.bd h.n.toNat
 sz : N <= a.tmps.size
 df : a.defers = DS
 mp : MapInv E q dq ins kvl w0 L lq ρ h w a
theorem getD_b {L : Array Bool} {i : Nat} (h : i < L.size) : L.getD i true = L.getD i false := by simp [h]
theorem put_get {a : Act} {d : Option Tmp} {v : Value} {t : Nat} (ht : d ≠ some t) : (a.put d v).tmps[t]? = a.tmps[t]? := by
 cases d with
 | none => rfl
 | some d =>
  show (a.tmps.setIfInBounds d v)[t]? = _
  rw [Array.getElem?_setIfInBounds, if_neg (fun e => ht (by rw [e]))]
theorem zj7 {a : Act} {v : Value} {t : Nat} (ht : t < a.tmps.size) : (a.put (some t) v).tmps[t]? = some v := by
 show (a.tmps.setIfInBounds t v)[t]? = _
 rw [Array.getElem?_setIfInBounds, if_pos rfl, if_pos ht]
theorem zrI {a : Act} {d : Option Tmp} {v : Value} : (a.put d v).tmps.size = a.tmps.size := by cases d <;> simp [Act.put]
theorem put_df {a : Act} {d : Option Tmp} {v : Value} : (a.put d v).defers = a.defers := by cases d <;> rfl
section
variable {ops : Array Oper} {qs cs : List (Nat × List Nat)} {q dq : Nat} {ins : List (Nat × List Nat)} {ty : TypeId} {n0 : Nat} {FR : Fr} {hS : H} {kvl : List (V × V)} {DS : List Deferred} {ρ0 : Rho} {h0 : H} {w0 : World}
 {L : Array Bool} {cr : List (Nat × List Nat)} {lq : Option (Nat × List Nat)} {ρ : Rho} {h : H} {w : World} {a : Act}
theorem MInv.slots (st : MapSt ops qs cs q dq ins ty n0) (iv : MInv E N ops cs q dq ins n0 FR hS kvl DS ρ0 h0 w0 L cr lq ρ h w a) {x : Nat × List Nat} (hx : x ∈ qs ++ (cs ++ ins)) (hr : x.1 ∈ Region.ready .any ops L) : FrAt E ρ h.n.toNat FR a.tmps x.2 := by
 intro t ht v hv
 obtain ⟨h1, h2⟩ := st.sl x hx t ht
 exact iv.fr t v hv h1 fun j o hj ho hd => EvQ.ready_edges hr j (h2 j o ho hd)
theorem MInv.make (st : MapSt ops qs cs q dq ins ty n0) (iv : MInv E N ops cs q dq ins n0 FR hS kvl DS ρ0 h0 w0 L cr none ρ h w a) (hqc : ∀ x ∈ cs, x.1 ≠ q) (hqi : ∀ x ∈ ins, x.1 ≠ q) (hdq : dq < a.tmps.size) {oq : Oper} (hoq : ops[q]? = some oq) (hoqd : oq.dst = some dq) :
  MInv E N ops cs q dq ins n0 FR hS kvl DS ρ0 h0 w0 (L.setIfInBounds q true) cr (some (w.heap.size, [])) ρ h (w.alloc (.map #[] 0)) (a.put (some dq) (.map (some w.heap.size))) := by
 obtain ⟨m1, m2⟩ := iv.mp
 have hqn : q < L.size := by rw [iv.size]; exact Nat.lt_of_lt_of_le st.q0 st.le
 obtain ⟨p, c1, c2, c3⟩ := iv.cs
 have hne : ∀ t, t ≠ dq -> (some dq : Option Tmp) ≠ some t := fun t h e => h (by cases e; rfl)
 refine ⟨by simpa using iv.size, fun j g1 g2 => ?_, ⟨p, c1, fun x hx => ?_, fun x hx => ?_⟩, znj iv.sat _, iv.ext.trans (znQ iv.sat _), iv.keep, iv.hn, fun t u hu hne' hall => ?_, by rw [zrI]; exact iv.sz, by rw [put_df]; exact iv.df, ?_⟩
 ·have := st.q0
  rw [getD_set_ne true (show q ≠ j by omega)]; exact iv.tail j g1 g2
 ·rw [getD_set_ne false (fun e => hqc x (by rw [c1]; exact List.mem_append_left _ hx) e.symm)]; exact c2 x hx
 ·rw [getD_set_ne true (fun e => hqc x (by rw [c1]; exact List.mem_append_right _ hx) e.symm)]; exact c3 x hx
 ·rw [put_get (hne t hne')]
  refine iv.fr t u hu hne' fun j o hj ho hd => ?_
  have := hall j o hj ho hd
  by_cases e : q = j
  ·subst e
   rw [hoq] at ho; cases ho
   rw [hoqd] at hd
   exact absurd hd (hne t hne')
  ·rwa [getD_set_ne false e] at this
 ·refine ⟨?_, zj7 hdq, iv.ext.size, fun p o hp hl => ?_, List.nodup_nil, fun n hn => (by cases hn), fun n x hx => ?_, fun n hn => (by cases hn), #[], ?_, rfl, fun i e he => (by simp at he)⟩
  ·have := getD_b (L := L.setIfInBounds q true) (i := q) (by simpa using hqn)
   rw [<- this]
   simp [Array.getD_eq_getD_getElem?, Array.getElem?_setIfInBounds, hqn]
  ·have := iv.sat.lt E hp hl
   omega
  ·have hx' := List.mem_of_getElem? hx
   have hxn := st.lt x (by simp [hx'])
   rw [getD_set_ne false (fun e => hqi x hx' e.symm)]
   have := m2 x hx'
   rw [getD_b (by rw [iv.size]; exact Nat.lt_of_lt_of_le hxn st.le)] at this
   rw [this]
   simp
  ·show (w.alloc (.map #[] 0)).heap[w.heap.size]? = _
   rw [zY, Array.getElem?_push, if_pos rfl]
   rfl
end
end Go.Ev
end
set_option linter.unusedSimpArgs false
set_option linter.unusedVariables false
noncomputable section
namespace Go.Ev
open Go
variable {E : Env} {P : Program} {N : Nat}
end Go.Ev
end
set_option linter.unusedSimpArgs false
set_option linter.unusedVariables false
noncomputable section
namespace Go.Ev
open Go
variable {E : Env} {P : Program} {N : Nat}
theorem zan {g : Ctx} {fr : Fr} {h : H} {fa : Fa} {k : K2} (hk : zbY .bad g fr h fa k = 0) : False := jM _ _ hk
theorem jN {Y : Ty} (hY : TyOk P Y) (hm : P.follows .mixedOrders = true) {dr : Nat -> Option Dr} {g : Ctx} (hcall : zk E P g.call) : ∀ (c : Code) (fr : Fr) (h : H) (fa : Fa) (k : K2), j2 dr c = true -> FaOk E fa ->
  zbY (j9 Y N dr c) g fr h fa k = 0 -> Runs E P N c fr h k
 | .skip, fr, h, fa, k, hB, hfa, hk => ⟨.normal, fr, h, fa, hk, hfa, fun {DS} ρ w a QQ hs hf hN hd hQ => wp_skip (hQ _ _ ⟨ρ, hf, hN, hd, hs, hs.refl E⟩)⟩
 | .ret, fr, h, fa, k, hB, hfa, hk => ⟨.ret, fr, h, fa, hk, hfa, fun {DS} ρ w a QQ hs hf hN hd hQ => wp_ret (hQ _ _ ⟨ρ, hf, hN, hd, hs, hs.refl E⟩)⟩
 | .exit i, fr, h, fa, k, hB, hfa, hk => ⟨.exit i, fr, h, fa, hk, hfa, fun {DS} ρ w a QQ hs hf hN hd hQ => wp_exit (hQ _ _ ⟨ρ, hf, hN, hd, hs, hs.refl E⟩)⟩
 | .label i, fr, h, fa, k, hB, hfa, hk => ⟨.normal, fr, h, fa, hk, hfa, fun {DS} ρ w a QQ hs hf hN hd hQ => wp_label (hQ _ _ ⟨ρ, hf, hN, hd, hs, hs.refl E⟩)⟩
 | .seq x y, fr, h, fa, k, hB, hfa, hk => by
  simp only [j2, Bool.and_eq_true] at hB
  have hk : zbY (j9 Y N dr x) g fr h fa (fun e fr h fa => zbH e (zbY (j9 Y N dr y) g fr h fa k) (k .ret fr h fa) (fun i => k (.exit i) fr h fa)) = 0 := hk
  obtain ⟨ae, fr1, h1, fa1, hk1, hfa1, r1⟩ := jN hY hm hcall x fr h fa _ hB.1 hfa hk
  cases ae with
  | normal =>
   obtain ⟨ae, fr2, h2, fa2, hk2, hfa2, r2⟩ := jN hY hm hcall y fr1 h1 fa1 k hB.2 hfa1 hk1
   refine ⟨ae, fr2, h2, fa2, hk2, hfa2, fun {DS} ρ w a QQ hs hf hN hd hQ => wp_seq (r1 ρ w a _ hs hf hN hd ?_)⟩
   rintro a1 w1 ⟨ρ1, f1, n1, d1, s1, x1⟩
   exact r2 ρ1 w1 a1 QQ s1 f1 n1 d1 fun a' w' hA => hQ a' w' (hA.trans x1)
  | ret => exact ⟨.ret, fr1, h1, fa1, hk1, hfa1, fun {DS} ρ w a QQ hs hf hN hd hQ => wp_seq (r1 ρ w a _ hs hf hN hd hQ)⟩
  | exit i => exact ⟨.exit i, fr1, h1, fa1, hk1, hfa1, fun {DS} ρ w a QQ hs hf hN hd hQ => wp_seq (r1 ρ w a _ hs hf hN hd hQ)⟩
 | .cond o x y, fr, h, fa, k, hB, hfa, hk => by
  simp only [j2, Bool.and_eq_true] at hB
  cases o with
  | tmp t =>
   have hk : way fa (fr.get (zA t)) (fun b fa => bc b (zbY (j9 Y N dr x) g fr h fa k) (zbY (j9 Y N dr y) g fr h fa k)) (err g 44) = 0 := hk
   obtain ⟨v, b, fa', hv, hb, hfa', hk⟩ := zm1 hk (jM _ _) hfa (fun _ => ⟨0, 0⟩)
   have hev : ∀ ρ n (a : Act), yF E ρ n fr a.tmps -> a.eval (.tmp t) = .bool b := by
    intro ρ n a hf
    have h1 := (hf t v hv).1
    have h2 : v.γ E ρ = .bool b := by cases v <;> simp [V.γ] at hb ⊢ <;> exact hb
    simp [Act.eval, h1, h2]
   cases b with
   | true =>
    obtain ⟨ae, fr1, h1, fa1, hk1, hfa1, r1⟩ := jN hY hm hcall x fr h fa' k hB.1 hfa' hk
    exact ⟨ae, fr1, h1, fa1, hk1, hfa1, fun {DS} ρ w a QQ hs hf hN hd hQ => wp_cond_true (hev ρ _ a hf) (r1 ρ w a QQ hs hf hN hd hQ)⟩
   | false =>
    obtain ⟨ae, fr1, h1, fa1, hk1, hfa1, r1⟩ := jN hY hm hcall y fr h fa' k hB.2 hfa' hk
    exact ⟨ae, fr1, h1, fa1, hk1, hfa1, fun {DS} ρ w a QQ hs hf hN hd hQ => wp_cond_false (hev ρ _ a hf) (r1 ρ w a QQ hs hf hN hd hQ)⟩
  | _ => exact (zan hk).elim
 | .block i x, fr, h, fa, k, hB, hfa, hk => by
  simp only [j2] at hB
  have hk : zbY (j9 Y N dr x) g fr h fa (fun e fr h fa => zbH e (k .normal fr h fa) (k .ret fr h fa) (fun j => bc (Nat.beq j i) (k .normal fr h fa) (k (.exit j) fr h fa))) = 0 := hk
  obtain ⟨ae, fr1, h1, fa1, hk1, hfa1, r1⟩ := jN hY hm hcall x fr h fa _ hB hfa hk
  cases ae with
  | normal => exact ⟨.normal, fr1, h1, fa1, hk1, hfa1, fun {DS} ρ w a QQ hs hf hN hd hQ => wp_block (r1 ρ w a _ hs hf hN hd hQ)⟩
  | ret => exact ⟨.ret, fr1, h1, fa1, hk1, hfa1, fun {DS} ρ w a QQ hs hf hN hd hQ => wp_block (r1 ρ w a _ hs hf hN hd hQ)⟩
  | exit j =>
   have hk2 : bc (Nat.beq j i) (k .normal fr1 h1 fa1) (k (.exit j) fr1 h1 fa1) = 0 := hk1
   clear hk1
   cases hj : Nat.beq j i with
   | true =>
    rw [hj] at hk2
    have hj : j = i := by simpa using hj
    subst hj
    refine ⟨.normal, fr1, h1, fa1, hk2, hfa1, fun {DS} ρ w a QQ hs hf hN hd hQ => wp_block (r1 ρ w a _ hs hf hN hd fun a' w' hA => ?_)⟩
    show Exit.inBlock j _ (.exit j) a' w'
    simp only [Exit.inBlock, if_true]
    exact hQ a' w' hA
   | false =>
    rw [hj] at hk2
    have hj : ¬ j = i := by
     intro e; subst e; simp at hj
    refine ⟨.exit j, fr1, h1, fa1, hk2, hfa1, fun {DS} ρ w a QQ hs hf hN hd hQ => wp_block (r1 ρ w a _ hs hf hN hd fun a' w' hA => ?_)⟩
    show Exit.inBlock i _ (.exit j) a' w'
    simp only [Exit.inBlock, hj, if_false]
    exact hQ a' w' hA
 | .loop x, fr, h, fa, k, hB, hfa, hk => by
  simp only [j2] at hB
  have key : ∀ n fr h fa, FaOk E fa -> loopN (zbY (j9 Y N dr x)) n g fr h fa k = 0 -> ∃ ae fr' h' fa', k ae fr' h' fa' = 0 /\ FaOk E fa' /\ ∀ {DS : List Deferred} ρ w a QQ, Sat E ρ h w -> yF E ρ h.n.toNat fr (a : Act).tmps -> N <= a.tmps.size -> a.defers = DS ->
    (∀ a' w', At E N DS ρ h w fr' h' a' w' -> QQ (AE.exit' ae) a' w') -> Code.rounds P x QQ n a w := by
   intro n
   induction n with
   | zero => intro fr h fa hfa hk; exact absurd hk (jM _ _)
   | succ n ih =>
    intro fr h fa hfa hk
    have hk : zbY (j9 Y N dr x) g fr h fa (fun e fr h fa => zbH e (loopN (zbY (j9 Y N dr x)) n g fr h fa k) (k .ret fr h fa) (fun i => k (.exit i) fr h fa)) = 0 := hk
    obtain ⟨ae, fr1, h1, fa1, hk1, hfa1, r1⟩ := jN hY hm hcall x fr h fa _ hB hfa hk
    cases ae with
    | normal =>
     obtain ⟨ae, fr2, h2, fa2, hk2, hfa2, r2⟩ := ih fr1 h1 fa1 hfa1 hk1
     refine ⟨ae, fr2, h2, fa2, hk2, hfa2, fun {DS} ρ w a QQ hs hf hN hd hQ => ?_⟩
     rw [rounds_succ]
     refine r1 ρ w a _ hs hf hN hd ?_
     rintro a1 w1 ⟨ρ1, f1, n1, d1, s1, x1⟩
     exact r2 ρ1 w1 a1 QQ s1 f1 n1 d1 fun a' w' hA => hQ a' w' (hA.trans x1)
    | ret => exact ⟨.ret, fr1, h1, fa1, hk1, hfa1, fun {DS} ρ w a QQ hs hf hN hd hQ => (by rw [rounds_succ]; exact r1 ρ w a _ hs hf hN hd hQ)⟩
    | exit i => exact ⟨.exit i, fr1, h1, fa1, hk1, hfa1, fun {DS} ρ w a QQ hs hf hN hd hQ => (by rw [rounds_succ]; exact r1 ρ w a _ hs hf hN hd hQ)⟩
  obtain ⟨ae, fr2, h2, fa2, hk2, hfa2, r2⟩ := key g.fuel fr h fa hfa hk
  exact ⟨ae, fr2, h2, fa2, hk2, hfa2, fun {DS} ρ w a QQ hs hf hN hd hQ => wp_loop_rounds _ (r2 ρ w a QQ hs hf hN hd hQ)⟩
 | .scope x, fr, h, fa, k, hB, hfa, hk => by
  simp only [j2] at hB
  obtain ⟨ae, fr1, h1, fa1, hk1, hfa1, r1⟩ := jN hY hm hcall x fr h fa k hB hfa hk
  exact ⟨ae, fr1, h1, fa1, hk1, hfa1, fun {DS} ρ w a QQ hs hf hN hd hQ => wp_scope_straight (r1 ρ w a _ hs hf hN hd (by cases ae <;> exact hQ))⟩
 | .region id ops false, fr, h, fa, k, hB, hfa, hk => by
  simp only [j9] at hk
  split at hk
  ·rename_i l hl
   obtain ⟨fr2, h2', fa2, hk2, hfa2, ho⟩ := zhh hY hcall _ _ fr h fa hl hfa (show opsT l g fr h fa (fun fr h fa => k .normal fr h fa) = 0 from hk)
   exact ⟨.normal, fr2, h2', fa2, hk2, hfa2, fun {DS} ρ w a QQ hs hf hN hd hQ => wp_region_list (ho ρ w a QQ hs hf hN hd hQ)⟩
  ·exact (zan hk).elim
 | .region id ops true, fr, h, fa, k, hB, hfa, hk => by
  simp only [j2] at hB
  simp only [j9] at hk
  split at hk
  ·rename_i bs ord hdr
   rw [hdr] at hB
   split at hk
   ·rename_i l hl
    exact zsR hY hm hcall hB hl hfa hk
   ·exact (zan hk).elim
  ·rename_i bs ord tl hdr
   rw [hdr] at hB
   split at hk
   ·rename_i l t hl ht
    exact Bool.noConfusion (show false = true from hB)
   ·exact (zan hk).elim
  ·rename_i ks ord hdr
   rw [hdr] at hB
   split at hk
   ·rename_i l hl
    exact Bool.noConfusion (show false = true from hB)
   ·exact (zan hk).elim
  ·rename_i ks ord tl hdr
   rw [hdr] at hB
   split at hk
   ·rename_i l t hl ht
    exact Bool.noConfusion (show false = true from hB)
   ·exact (zan hk).elim
  ·rename_i ks ord q tl hdr
   rw [hdr] at hB
   split at hk
   ·rename_i l hl
    exact Bool.noConfusion (show false = true from hB)
   ·exact (zan hk).elim
  ·rename_i ks ord qs cs q ins n0 hdr
   rw [hdr] at hB
   split at hk
   ·rename_i pre qs' cs' dq ins' t' h1 h2 h3 h4 h5 h6
    split at hk
    ·rename_i hdN
     exact Bool.noConfusion (show false = true from hB)
    ·exact (zan hk).elim
   ·exact (zan hk).elim
  ·rename_i bs ord ch q tl hdr
   rw [hdr] at hB
   split at hk
   ·rename_i l c aq t hl hc haq ht
    exact Bool.noConfusion (show false = true from hB)
   ·exact (zan hk).elim
  ·rename_i n bs ord hdr
   rw [hdr] at hB
   split at hk
   ·rename_i hd l hhd hl
    exact mix_run hY hm hcall hB hhd hl hfa hk
   ·exact (zan hk).elim
  ·rename_i d tl hdr
   rw [hdr] at hB
   split at hk
   ·rename_i hd hhd
    split at hk
    ·rename_i o ho
     rw [jY, Array.getElem?_toList] at ho
     split at hk
     ·rename_i i r hi hr
      exact two_run hY hm hcall ho hB hhd hi hr hfa hk
     ·exact (zan hk).elim
    ·rename_i hne
     split at hk
     ·rename_i t ht
      rw [zrP] at ht
      refine zqO hY hm hcall hB hhd ht (fun e => ?_) hfa hk
      subst e
      rcases Nat.lt_or_ge d ops.size with h1 | h1
      ·exact (hne ops[d] rfl (by rw [jY]; simp [h1])).elim
      ·exact h1
     ·exact (zan hk).elim
   ·exact (zan hk).elim
  ·exact (zan hk).elim
 | .rangeFunc f ps x y, fr, h, fa, k, hB, hfa, hk => (zan hk).elim
 | .goto l, fr, h, fa, k, hB, hfa, hk => (zan hk).elim
 | .refuse s, fr, h, fa, k, hB, hfa, hk => (zan hk).elim
end Go.Ev
end
set_option linter.unusedSimpArgs false
set_option linter.unusedVariables false
noncomputable section
namespace Go.Ev
open Go
variable {E : Env} {P : Program} {N : Nat}
def resS (tmps : Array Value) : ResultVar -> Sem Value
 | .tmp t => pure (tmps.getD t undef)
 | .cell a t => do loadVar t (<- asAddr (tmps.getD a undef))
def ROk (P : Program) (r : ResultVar) (x : IR) : Prop := ∀ (E : Env) (ρ : Rho) (fr : Fr) (h : H) (w : World) (tmps : Array Value) (v : V), Sat E ρ h w -> yF E ρ h.n.toNat fr tmps -> resV fr h x = some v -> (resS tmps r).run P w = .ok (v.γ E ρ) w /\ v.bd h.n.toNat
theorem zeR {α β : Type} {x : Option α} {f : α -> Option β} {v : β} (h : oc x f none = some v) : ∃ a, x = some a /\ f a = some v := by
 cases x with
 | none => cases h
 | some a => exact ⟨a, rfl, h⟩
theorem zgG {β : Type} {x : Option V} {f : Ev.P -> Nat -> Option β} {v : β} (h : zbc x f none = some v) : ∃ id off, x = some (.ptr id off) /\ f id off = some v := by
 unfold zbc at h
 split at h
 ·exact ⟨_, _, rfl, h⟩
 ·cases h
theorem znZ {ρ : Rho} {h : H} {w : World} (hs : Sat E ρ h w) {id : Ev.P} {o : O} (ho : h.t.get id = some o) {off : Nat} {v : V} (hc : zbv o off = some v) :
  ∃ cs t, w.heap[(ρ id).b]? = some (.cells cs t (0, 0)) /\ cs[off]? = some (v.γ E ρ) /\ v.bd h.n.toNat := by
 obtain ⟨cs, tt, hb, hcell⟩ := O.block (hs.obj id o ho) (hs.bd id o ho).2 (zcN hc)
 obtain ⟨h1, h2⟩ := hcell off v hc
 exact ⟨cs, tt, hb, h1, h2⟩
theorem zfA : ∀ (l : List V) (i : Nat) (fr : Fr) (k : Fr -> Nat), jH zoQ zoR l i fr k = 0 -> ∃ fr', k fr' = 0 /\ ∀ q v, fr'.get q = some v -> fr.get q = some v \/ ∃ j, q = zA (i + j) /\ l[j]? = some v
 | [], i, fr, k, hk => ⟨fr, hk, fun q v h => .inl h⟩
 | x :: r, i, fr, k, hk => by
  have hk : zeI (zA i) fr x (fun fr => jH zoQ zoR r (Nat.succ i) fr k) = 0 := hk
  obtain ⟨fr1, hk, g1, g2⟩ := zeH hk
  obtain ⟨fr', h1, h2⟩ := zfA r (i + 1) fr1 k hk
  refine ⟨fr', h1, fun q v hv => ?_⟩
  rcases h2 q v hv with h3 | ⟨j, h3, h4⟩
  ·by_cases hq : q = zA i
   ·rw [hq, g1] at h3
    exact .inr ⟨0, hq, by simpa using h3⟩
   ·rw [g2 q hq] at h3
    exact .inl h3
  ·exact .inr ⟨j + 1, by rw [h3]; congr 1; omega, by simpa using h4⟩
theorem zdM {l : List V} {k : Fr -> Nat} (hk : zcd l k = 0) : ∃ fr, k fr = 0 /\ ∀ t v, fr.get (zA t) = some v -> l[t]? = some v := by
 obtain ⟨fr, h1, h2⟩ := zfA l 0 .e k hk
 refine ⟨fr, h1, fun t v hv => ?_⟩
 rcases h2 _ v hv with h3 | ⟨j, h3, h4⟩
 ·rw [Fr.get_e] at h3; simp at h3
 ·have := zeX h3
  have : t = j := by omega
  subst this; exact h4
theorem zrA {Y : Ty} (hY : TyOk P Y) {r : ResultVar} {rs : List ResultVar} {l : List IR} (h : zfI Y (r :: rs) = some l) : ∃ x l', l = x :: l' /\ zfI Y rs = some l' /\ ROk P r x := by
 simp only [zfI] at h
 split at h
 rotate_left
 ·simp at h
 rename_i l' hl'
 split at h
 ·rename_i t
  simp at h; subst h
  refine ⟨_, _, rfl, hl', fun E ρ fr h w tmps v hs hf hv => ?_⟩
  obtain ⟨h1, h2⟩ := hf t v hv
  exact ⟨by simp [resS, h1], h2⟩
 ·rename_i a t
  have one : (∃ d, P.underlying t = some d /\ zbT d = false) -> ROk P (.cell a t) (.c1 (zA a)) := by
   rintro ⟨d, hu, hd⟩ E ρ fr h w tmps v hs hf hv
   obtain ⟨id, off, hp, hv⟩ := zgG (show zbc (fr.get (zA a)) (fun id off => oc (yW h id) (fun o => zbv o off) none) none = some v from hv)
   obtain ⟨o, ho, hv⟩ := zeR hv
   rw [yo] at ho
   obtain ⟨h1, h2⟩ := hf a _ hp
   obtain ⟨cs, tt, hb, hcell, hbd⟩ := znZ hs ho hv
   refine ⟨?_, hbd⟩
   have := zdn (P := P) (w := w) hu hd (b := (ρ id).b) (o := off) (v := v.γ E ρ) (by rw [zbF hb]; exact hcell)
   simp [resS, h1, V.γ, asAddr, this]
  have many : zbC P t = true -> za2 P t = true -> ∀ m, m = yw P t -> ROk P (.cell a t) (.cn m (zA a)) := by
   intro hty hg m hm E ρ fr h w tmps v hs hf hv
   obtain ⟨id, off, hp, hv⟩ := zgG (show zbc (fr.get (zA a)) (fun id off => oc (yW h id) (fun o => (zdo o off m).map .agg) none) none = some v from hv)
   obtain ⟨o, ho, hv⟩ := zeR hv
   rw [yo] at ho
   obtain ⟨l, hl, rfl⟩ := Option.map_eq_some_iff.1 hv
   obtain ⟨h1, h2⟩ := hf a _ hp
   obtain ⟨hlen, hbd, hcell⟩ := zcG hs ho hl
   refine ⟨?_, hbd⟩
   obtain ⟨g1, g2⟩ := zaf (w := w) hty
   have hl2 := run_loadCells_list (P := P) w ⟨(ρ id).b, off, none⟩ (γL E ρ l) hcell
   rw [γL_length, hlen, hm] at hl2
   have : (loadVar t ⟨(ρ id).b, off, none⟩).run P w = .ok (.agg (γL E ρ l).toArray) w := by
    unfold loadVar
    simp [g2, hg, g1, hl2]
   simp [resS, h1, V.γ, asAddr, this]
  split at h
  ·rename_i z k ht
   simp at h; subst h
   obtain ⟨d, hu, hd, _⟩ := zcA hY.ti ht
   exact ⟨_, _, rfl, hl', one ⟨d, hu, hd⟩⟩
  ·rename_i ht
   simp at h; subst h
   obtain ⟨hu, _⟩ := zbs hY.ti ht
   exact ⟨_, _, rfl, hl', one ⟨_, hu, rfl⟩⟩
  ·rename_i fs z ht
   simp at h; subst h
   obtain ⟨fl, hu, _, _, hty, hsz, hg⟩ := zgK hY.ti ht
   exact ⟨_, _, rfl, hl', many hty hg _ (by rw [js]; exact hsz)⟩
  ·rename_i n1 e1 s1 g1 z ht
   simp at h; subst h
   obtain ⟨hu, _, _, _, hty, hsz, hg⟩ := zc7 hY.ti ht
   exact ⟨_, _, rfl, hl', many hty hg _ (by rw [js]; exact hsz)⟩
  ·simp at h
theorem ziR {Y : Ty} (hY : TyOk P Y) : ∀ {rs : List ResultVar} {l : List IR}, zfI Y rs = some l -> ∀ (E : Env) (ρ : Rho) (fr : Fr) (h : H) (w : World) (tmps : Array Value) (vs : List V), Sat E ρ h w -> yF E ρ h.n.toNat fr tmps -> zg6 fr h l = some vs ->
  (rs.mapM (resS tmps)).run P w = .ok (γL E ρ vs) w /\ bdL h.n.toNat vs
 | [], l, hl, E, ρ, fr, h, w, tmps, vs, hs, hf, hv => by
  simp [zfI] at hl; subst hl
  have hv : some [] = some vs := hv
  cases hv
  exact ⟨by simp [γL], trivial⟩
 | r :: rs, l, hl, E, ρ, fr, h, w, tmps, vs, hs, hf, hv => by
  obtain ⟨x, l', rfl, hl', hx⟩ := zrA hY hl
  have hv : oc (resV fr h x) (fun a => oc (zg6 fr h l') (fun b => some (a :: b)) none) none = some vs := hv
  obtain ⟨a, ha, hv⟩ := zeR hv
  obtain ⟨b, hb, hv⟩ := zeR hv
  cases hv
  obtain ⟨e1, b1⟩ := hx E ρ fr h w tmps a hs hf ha
  obtain ⟨e2, b2⟩ := ziR hY hl' E ρ fr h w tmps b hs hf hb
  refine ⟨?_, b1, b2⟩
  rw [List.mapM_cons, Sem.run_bind, e1]
  simp only [Result.andThen_ok, Sem.run_bind, e2, Sem.run_pure, γL]
theorem zb5 {Y : Ty} (hY : TyOk P Y) {fn : Func} {l : List IR} (hl : zfI Y fn.results.toList = some l) {ρ : Rho} {fr : Fr} {h : H} {w : World} {tmps : Array Value} {vs : List V} (hs : Sat E ρ h w) (hf : yF E ρ h.n.toNat fr tmps) (hv : zg6 fr h l = some vs) :
  (results fn tmps).run P w = .ok (if h : (γL E ρ vs).toArray.size = 1 then (γL E ρ vs).toArray[0] else .tuple (γL E ρ vs).toArray) w /\ bdL h.n.toNat vs := by
 obtain ⟨h1, h2⟩ := ziR hY hl E ρ fr h w tmps vs hs hf hv
 refine ⟨?_, h2⟩
 have e0 : results fn tmps = (do
   let vs <- fn.results.mapM (resS tmps)
   pure (if h : vs.size = 1 then vs[0] else .tuple vs)) := rfl
 rw [e0, Sem.run_bind, Array.mapM_eq_mapM_toList, Sem.run_map, h1]
 rfl
structure CxOk (E : Env) (P : Program) (Y : Ty) (C : Cx) : Prop where
 ty : TyOk P Y
 mixed : P.follows .mixedOrders = true
 fn : ∀ F i, C.fn F = some i -> ∃ (f : Func) (dr : Nat -> Option Dr), P.funcs[F]? = some f /\ jJ P F /\ cFn Y dr f = some i /\ (∀ c, f.body = some c -> j2 dr c = true)
 hook : ∀ F s, C.hook F = some s -> zk E P (fun G l h fa k => bc (Nat.beq G F) (s l h fa k) 1)
theorem zfH {Y : Ty} {C : Cx} (hC : CxOk E P Y C) (n : Nat) {inner : z5} (ih : zk E P inner) : zk E P (ze9 C n inner) := by
  intro F l h fa k hk hfa
  have hk : oc (C.hook F) (fun s => s l h fa k) (oc (C.fn F) (fun f => callF C inner F f l h fa k) (Nat.succ (Nat.add (Nat.mul F 100) 51))) = 0 := hk
  cases hS : C.hook F with
  | some s =>
   rw [hS] at hk
   exact hC.hook F s hS F l h fa k (by simp [jD]; exact hk) hfa
  | none =>
   rw [hS] at hk
   cases hF : C.fn F with
   | none => rw [hF] at hk; exact absurd (show Nat.succ _ = 0 from hk) (by simp)
   | some i =>
    rw [hF] at hk
    have hk : callF C inner F i l h fa k = 0 := hk
    obtain ⟨f, dr, hfn, hca, hcf, hdr⟩ := hC.fn F i hF
    refine ⟨hca, ?_⟩
    unfold cFn at hcf
    split at hcf
    rotate_left
    ·simp at hcf
    rename_i c rs hc hrs
    simp at hcf; subst hcf
    obtain ⟨fr, hk, hfr⟩ := zdM hk
    obtain ⟨ae, fr1, h1, fa1, hk1, hfa1, zv⟩ := jN hC.ty hC.mixed (g := ⟨inner, F, C.fuel⟩) ih c fr h fa _ (hdr c hc) hfa hk
    have fin : (AE.exit' ae = .normal \/ AE.exit' ae = .ret) -> zj4 rs fr1 h1 (fun v => k v h1 fa1) (Nat.succ (Nat.add (Nat.mul F 100) 49)) = 0 -> ∃ v h' fa', k v h' fa' = 0 /\ FaOk E fa' /\
      ∀ ρ w, bdL h.n.toNat l -> Sat E ρ h w -> Calls P F (γL E ρ l).toArray w fun e w' => ∃ ρ', e = .returned (v.γ E ρ') /\ Sat E ρ' h' w' /\ Ext ρ h w ρ' h' w' /\ v.bd h'.n.toNat := by
     intro hae hr
     obtain ⟨vs, hvs, hr⟩ := ya (show oc (zg6 fr1 h1 rs) _ _ = 0 from hr) (by simp)
     have hv : ∃ v, k v h1 fa1 = 0 /\ (∀ n, bdL n vs -> v.bd n) /\ ∀ ρ, (if h : (γL E ρ vs).toArray.size = 1 then (γL E ρ vs).toArray[0] else .tuple (γL E ρ vs).toArray) = v.γ E ρ := by
      match vs, hr with
      | [], hr => exact ⟨.tup [], hr, fun n hn => hn, fun ρ => rfl⟩
      | [x], hr => exact ⟨x, hr, fun n hn => hn.1, fun ρ => by simp [γL]⟩
      | x :: y :: r, hr => exact ⟨.tup (x :: y :: r), hr, fun n hn => hn, fun ρ => by simp [γL, V.γ]⟩
     obtain ⟨v, hkv, hvb, hvγ⟩ := hv
     refine ⟨v, h1, fa1, hkv, hfa1, fun ρ w hb hs => ?_⟩
     refine calls_of_wp hfn hc ?_
     ·have hf : yF E ρ h.n.toNat fr ((γL E ρ l).toArray ++ Array.replicate (f.ntmps - (γL E ρ l).toArray.size) undef) := by
       intro t v hv
       have h2 := hfr t v hv
       have ht : t < l.length := (List.getElem?_eq_some_iff.1 h2).1
       refine ⟨?_, (jh _ l).1 hb v (List.mem_of_getElem? h2)⟩
       rw [Array.getElem?_append_left (by simp [γL_length]; exact ht)]
       simp [γL_get, h2]
      refine zv ρ w { tmps := (γL E ρ l).toArray ++ Array.replicate (f.ntmps - (γL E ρ l).toArray.size) undef, defers := [] } _ hs hf (by simp [γL_length]; omega) rfl ?_
      rintro a1 w1 ⟨ρ1, f1, n1, d1, s1, x1⟩
      obtain ⟨e1, b1⟩ := zb5 hC.ty hrs s1 f1 hvs
      rw [hvγ] at e1
      have : bodyPost P f (fun e w' => ∃ ρ', e = .returned (v.γ E ρ') /\ Sat E ρ' h1 w' /\ Ext ρ h w ρ' h1 w' /\ v.bd h1.n.toNat) .ret a1 w1 := ⟨d1, _, e1, ρ1, rfl, s1, x1, hvb _ b1⟩
      rcases hae with h | h <;> rw [h] <;> exact this
    cases ae with
    | normal => exact fin (.inl rfl) hk1
    | ret => exact fin (.inr rfl) hk1
    | exit i => exact absurd (show Nat.succ _ = 0 from hk1) (by simp)
theorem jv {Y : Ty} {C : Cx} (hC : CxOk E P Y C) : ∀ n, zk E P (za1 C n) := by
 intro n
 induction n with
 | zero => intro F l h fa k hk; exact absurd (show Nat.succ _ = 0 from hk) (by simp)
 | succ n ih => exact zfH hC n ih
end Go.Ev
end
set_option linter.unusedSimpArgs false
set_option linter.unusedVariables false
noncomputable section
namespace Go.Ev
open Go
variable {E : Env} {P : Program}
theorem zdO (c c' : Option SB) (b b' : Bool) : yn E (andO c c') (match b, b' with | true, true => true | _, _ => false) = (yn E c b && yn E c' b') := by
 cases c <;> cases c' <;> cases b <;> cases b' <;> simp [yn, andO, SB.den]
theorem znX (c c' : Option SB) (b b' : Bool) : yn E (andO c c') (b && b') = (yn E c b && yn E c' b') := by
 cases c <;> cases c' <;> cases b <;> cases b' <;> simp [yn, andO, SB.den]
theorem zml {e : EK} {es : List EK} {xs ys : List V} {c : Option SB} {b : Bool} (h : eqL (e :: es) xs ys = some (c, b)) :
  ∃ x xs' y ys' c1 b1 c2 b2, xs = x :: xs' /\ ys = y :: ys' /\ eqC e x y = some (c1, b1) /\ eqL es xs' ys' = some (c2, b2) /\ yn E c b = (yn E c1 b1 && yn E c2 b2) := by
 cases xs with
 | nil => simp [eqL] at h
 | cons x xs =>
  cases ys with
  | nil => simp [eqL] at h
  | cons y ys =>
   simp only [eqL] at h
   split at h
   ·rename_i c1 b1 c2 b2 h1 h2
    simp only [Option.some.injEq, Prod.mk.injEq] at h
    obtain ⟨rfl, rfl⟩ := h
    exact ⟨x, xs, y, ys, c1, b1, c2, b2, rfl, rfl, h1, h2, zdO _ _ _ _⟩
   ·simp at h
theorem zgr {xs ys : List V} {c : Option SB} {b : Bool} (h : eqL [] xs ys = some (c, b)) : xs = [] /\ ys = [] /\ yn E c b = true := by
 cases xs <;> cases ys <;> simp [eqL] at h
 obtain ⟨rfl, rfl⟩ := h
 exact ⟨rfl, rfl, rfl⟩
theorem zfE : ∀ (l m : List EK) {xs ys : List V} {c : Option SB} {b : Bool}, eqL (l ++ m) xs ys = some (c, b) ->
  ∃ xs1 xs2 ys1 ys2 c1 b1 c2 b2, xs = xs1 ++ xs2 /\ ys = ys1 ++ ys2 /\ xs1.length = l.length /\ ys1.length = l.length /\ eqL l xs1 ys1 = some (c1, b1) /\ eqL m xs2 ys2 = some (c2, b2) /\ yn E c b = (yn E c1 b1 && yn E c2 b2)
 | [], m, xs, ys, c, b, h => ⟨[], xs, [], ys, none, true, c, b, rfl, rfl, rfl, rfl, rfl, h, by simp [yn]⟩
 | e :: l, m, xs, ys, c, b, h => by
  rw [List.cons_append] at h
  cases xs with
  | nil => simp [eqL] at h
  | cons x xs =>
   cases ys with
   | nil => simp [eqL] at h
   | cons y ys =>
    simp only [eqL] at h
    split at h
    ·rename_i c1 b1 c2 b2 h1 h2
     simp only [Option.some.injEq, Prod.mk.injEq] at h
     obtain ⟨rfl, rfl⟩ := h
     obtain ⟨xs1, xs2, ys1, ys2, d1, e1, d2, e2, rfl, rfl, q1, q2, q3, q4, q5⟩ := zfE l m h2
     refine ⟨x :: xs1, xs2, y :: ys1, ys2, andO c1 d1, b1 && e1, d2, e2, rfl, rfl, by simp [q1], by simp [q2], ?_, q4, ?_⟩
     ·simp only [eqL, h1, q3]; cases b1 <;> cases e1 <;> rfl
     ·refine (zdO _ _ _ _).trans ?_
      rw [znX, q5, Bool.and_assoc]
    ·simp at h
theorem ziL {α : Type} (post : List α) : ∀ xs : List α, zeB xs.length (xs ++ post) = some xs
 | [] => by cases post <;> rfl
 | x :: xs => by
  show oc (zeB xs.length (xs ++ post)) (fun l => some (x :: l)) none = _
  rw [ziL post xs]; rfl
def zeu (P : Program) (t : Nat) (xs : List V) : V := if za2 P t then .agg xs else xs.headD (.b true)
theorem zdH {t : Nat} {pre xs post : List V} {off : Nat} (h1 : pre.length = off) (h2 : xs.length = yw P t) (h3 : za2 P t = false -> xs.length = 1) : part (pre ++ (xs ++ post)) off (yw P t) (za2 P t) = some (zeu P t xs) := by
 unfold part zeu
 cases hg : za2 P t with
 | true =>
  have hd : zf0 off (pre ++ (xs ++ post)) = xs ++ post := by rw [ze4, <- h1, List.drop_left]
  rw [hd, <- h2]
  simp only [if_true]
  rw [ziL]; rfl
 | false =>
  simp only [Bool.false_eq_true, if_false]
  match xs, h3 hg with
  | [x], _ => rw [jY, List.getElem?_append_right (by omega)]; simp [h1]
theorem zfd {t : Nat} {d : TypeDesc} (h : P.underlying t = some d) : za2 P t = zbT d := by simp [za2, h]
theorem eqC_int {k : IntKind} {x y : V} {c : Option SB} {b : Bool} (h : eqC (.int k) x y = some (c, b)) (ρ : Rho) : ∃ p q, x.γ E ρ = .int k p /\ y.γ E ρ = .int k q /\ yn E c b = (p == q) := by
 simp only [eqC] at h
 split at h
 ·rename_i k1 a k2 b'
  split at h
  ·rename_i hk
   simp only [Bool.and_eq_true] at hk
   obtain rfl := yE hk.1
   obtain rfl := yE hk.2
   simp at h
   obtain ⟨rfl, rfl⟩ := h
   refine ⟨a, b', rfl, rfl, ?_⟩
   simp [yn, yJ]
   rfl
  ·simp at h
 ·split at h
  ·rename_i k1 a k2 b' h1 h2
   split at h
   ·rename_i hk
    simp only [Bool.and_eq_true] at hk
    obtain rfl := yE hk.1
    obtain rfl := yE hk.2
    simp at h
    obtain ⟨rfl, rfl⟩ := h
    refine ⟨_, _, zdZ h1 ρ, zdZ h2 ρ, ?_⟩
    simp [yn, SB.den, zce, yJ]
    rfl
   ·simp at h
  ·simp at h
mutual
theorem zhF : ∀ (d : Nat) (t : Nat) (l : List EK), eqOf P d t = some l -> ∀ (D : Nat) (ρ : Rho) (w : World) (xs ys : List V) (c : Option SB) (b : Bool), d <= D -> eqL l xs ys = some (c, b) ->
  (Op.equalIn D t ((zeu P t xs).γ E ρ) ((zeu P t ys).γ E ρ)).run P w = .ok (yn E c b) w /\ (za2 P t = false -> xs.length = 1 /\ ys.length = 1)
 | 0, t, l, h, _, _, _, _, _, _, _, _, _ => by simp [eqOf] at h
 | d + 1, t, l, h, D, ρ, w, xs, ys, c, b, hD, he => by
  obtain ⟨D, rfl⟩ : ∃ D', D = D' + 1 := ⟨D - 1, by omega⟩
  simp only [eqOf] at h
  split at h
  ·rename_i hu
   simp at h; subst h
   obtain ⟨x, xs', y, ys', c1, b1, c2, b2, rfl, rfl, h1, h2, h3⟩ := zml (E := E) he
   obtain ⟨rfl, rfl, h4⟩ := zgr (E := E) h2
   obtain ⟨p, q, e1, e2, e3⟩ := zmo (E := E) h1 ρ
   have hg : za2 P t = false := by rw [zfd hu]; rfl
   refine ⟨?_, fun _ => ⟨rfl, rfl⟩⟩
   simp only [zeu, hg, Bool.false_eq_true, if_false, List.headD_cons, e1, e2]
   rw [run_equalIn_bool' w D t p q hu, h3, e3, h4, Bool.and_true]
  ·rename_i k hu
   simp at h; subst h
   obtain ⟨x, xs', y, ys', c1, b1, c2, b2, rfl, rfl, h1, h2, h3⟩ := zml (E := E) he
   obtain ⟨rfl, rfl, h4⟩ := zgr (E := E) h2
   obtain ⟨p, q, e1, e2, e3⟩ := eqC_int (E := E) h1 ρ
   have hg : za2 P t = false := by rw [zfd hu]; rfl
   refine ⟨?_, fun _ => ⟨rfl, rfl⟩⟩
   simp only [zeu, hg, Bool.false_eq_true, if_false, List.headD_cons, e1, e2]
   rw [run_equalIn_int w D t k k p q hu, h3, e3, h4, Bool.and_true]
  ·rename_i fl hu
   split at h
   ·simp at h
   ·rename_i hst
    have hg : za2 P t = true := by rw [zfd hu]; rfl
    refine ⟨?_, fun hf => by rw [hg] at hf; simp at hf⟩
    have hfl : P.fieldsOf t = fl := by simp [Program.fieldsOf, hu]
    simp only [zeu, hg, if_true, V.γ]
    rw [run_equalIn_struct w D t _ _ (by rw [hfl]; exact hu) (by simpa using hst), hfl]
    exact zmn d 0 fl.toList l h D ρ w [] [] xs ys c b (by omega) rfl rfl he
  ·rename_i n e hu
   split at h
   ·rename_i l1 h1
    split at h
    ·rename_i hc
     simp only [Bool.and_eq_true, Nat.beq_eq, js] at hc
     simp at h; subst h
     have hg : za2 P t = true := by rw [zfd hu]; rfl
     refine ⟨?_, fun hf => by rw [hg] at hf; simp at hf⟩
     obtain ⟨i, hi, his⟩ := zdL hc.2
     have hco : P.cellsOf e = yw P e := by simp [Program.cellsOf, hi, his]
     simp only [zeu, hg, if_true, V.γ]
     rw [run_equalIn_array w D _ _ hu hi, List.range_eq_range', hco]
     have key : ∀ (n : Nat) (pre1 pre2 xs ys : List V) (j : Nat) (c : Option SB) (b : Bool) (w : World), pre1.length = j * yw P e -> pre2.length = j * yw P e -> eqL (rep n l1) xs ys = some (c, b) ->
       (Op.eqItems D e (yw P e) (γL E ρ (pre1 ++ xs)).toArray (γL E ρ (pre2 ++ ys)).toArray (List.range' j n)).run P w = .ok (yn E c b) w := by
      intro n
      induction n with
      | zero =>
       intro pre1 pre2 xs ys j c b w _ _ he
       obtain ⟨rfl, rfl, h4⟩ := zgr (E := E) (show eqL [] xs ys = _ from he)
       rw [h4]; simp [Op.eqItems, List.range']
      | succ n ih =>
       intro pre1 pre2 xs ys j c b w hp1 hp2 he
       obtain ⟨xs1, xs2, ys1, ys2, c1, b1, c2, b2, rfl, rfl, q1, q2, q3, q4, q5⟩ := zfE (E := E) l1 (rep n l1) (show eqL (l1 ++ rep n l1) xs ys = _ from he)
       obtain ⟨r1, r2⟩ := zhF d e l1 h1 D ρ w xs1 ys1 c1 b1 (by omega) q3
       obtain ⟨p1, _⟩ := zcn (E := E) (w := w) hc.2 (ρ := ρ) (zdH (pre := pre1) (xs := xs1) (post := xs2) hp1 (by omega) (fun hf => (r2 hf).1))
       obtain ⟨p2, _⟩ := zcn (E := E) (w := w) hc.2 (ρ := ρ) (zdH (pre := pre2) (xs := ys1) (post := ys2) hp2 (by omega) (fun hf => (r2 hf).2))
       rw [List.range'_succ]
       simp only [Op.eqItems, Sem.run_bind, p1, p2, r1, Result.andThen_ok]
       cases hb : yn E c1 b1 with
       | false => simp [q5, hb]
       | true =>
        have := ih (pre1 ++ xs1) (pre2 ++ ys1) xs2 ys2 (j + 1) c2 b2 w (by rw [List.length_append, hp1, Nat.add_mul]; omega) (by rw [List.length_append, hp2, Nat.add_mul]; omega) q4
        simp only [List.append_assoc] at this
        simp [q5, hb, this]
     exact key n [] [] xs ys 0 c b w (by simp) (by simp) he
    ·simp at h
   ·simp at h
  ·simp at h
theorem zmn : ∀ (d : Nat) (off : Nat) (fl : List Field) (l : List EK), eqFs P d off fl = some l -> ∀ (D : Nat) (ρ : Rho) (w : World) (pre1 pre2 xs ys : List V) (c : Option SB) (b : Bool), d <= D -> pre1.length = off -> pre2.length = off -> eqL l xs ys = some (c, b) ->
  (Op.eqFields D (γL E ρ (pre1 ++ xs)).toArray (γL E ρ (pre2 ++ ys)).toArray fl).run P w = .ok (yn E c b) w
 | 0, off, fl, l, h, _, _, _, _, _, _, _, _, _, _, _, _, _ => by simp [eqFs] at h
 | d + 1, off, [], l, h, D, ρ, w, pre1, pre2, xs, ys, c, b, hD, hp1, hp2, he => by
  simp [eqFs] at h; subst h
  obtain ⟨rfl, rfl, h4⟩ := zgr (E := E) he
  rw [h4]; simp [Op.eqFields]
 | d + 1, off, f :: r, l, h, D, ρ, w, pre1, pre2, xs, ys, c, b, hD, hp1, hp2, he => by
  simp only [eqFs] at h
  split at h
  ·rename_i hf
   simp only [Bool.and_eq_true, decide_eq_true_eq, Nat.beq_eq] at hf
   obtain ⟨hname, hoff⟩ := hf
   split at h
   ·rename_i l1 h1
    split at h
    ·rename_i hc
     simp only [Bool.and_eq_true, Nat.beq_eq, js] at hc
     split at h
     ·rename_i m hm
      simp at h; subst h
      obtain ⟨xs1, xs2, ys1, ys2, c1, b1, c2, b2, rfl, rfl, q1, q2, q3, q4, q5⟩ := zfE (E := E) l1 m he
      obtain ⟨r1, r2⟩ := zhF d f.type l1 h1 D ρ w xs1 ys1 c1 b1 (by omega) q3
      obtain ⟨p1, _⟩ := zcn (E := E) (w := w) hc.2 (ρ := ρ) (zdH (pre := pre1) (xs := xs1) (post := xs2) (off := f.offset) (by omega) (by omega) (fun hf => (r2 hf).1))
      obtain ⟨p2, _⟩ := zcn (E := E) (w := w) hc.2 (ρ := ρ) (zdH (pre := pre2) (xs := ys1) (post := ys2) (off := f.offset) (by omega) (by omega) (fun hf => (r2 hf).2))
      have ih := zmn d (off + l1.length) r m (by rw [<- js]; exact hm) D ρ w (pre1 ++ xs1) (pre2 ++ ys1) xs2 ys2 c2 b2 (by omega) (by rw [List.length_append]; omega) (by rw [List.length_append]; omega) q4
      simp only [List.append_assoc] at ih
      simp only [Op.eqFields, hname, ne_eq, not_false_eq_true, if_true, Sem.run_bind, p1, p2, r1, Result.andThen_ok]
      cases hb : yn E c1 b1 with
      | false => simp [q5, hb]
      | true => simp [q5, hb, ih]
     ·simp at h
    ·simp at h
   ·simp at h
  ·simp at h
end
theorem zdv : EqSpec P (zP P) := by
 intro t l h
 have h : eqT P t = some l := h
 unfold eqT at h
 split at h
 ·simp at h
 ·rename_i hc
  simp only [Bool.or_eq_true, Bool.not_eq_true', not_or, Bool.not_eq_true, Bool.not_eq_false] at hc
  refine ⟨hc.1, fun E ρ w xs ys c b he => ?_⟩
  have h1 := (zhF (E := E) 40 t l h 10000 ρ w xs ys c b (by decide) he).1
  simp only [zeu, hc.2, if_true, V.γ] at h1
  exact h1
theorem zeY {kd : IntKind} {v : V} (h : zal (.one kd) v = true) : ∃ n, v = .i kd n := by
 cases v <;> simp only [zal] at h <;> first | (simp at h; done) | skip
 exact ⟨_, by rw [yE h]⟩
theorem zfY {kd : IntKind} (ρ : Rho) {n : Int} : ∀ (l : List (V × V)) (es : List MapEntry) (i : Nat) (r : Option (Nat × V)), jo (.one kd) (.i kd n) l i = some r -> es.map (fun e => (e.key, e.val)) = l.map (fun p => (p.1.γ E ρ, p.2.γ E ρ)) ->
  Instr.findNow (.int kd) (.int kd n) es i = some (r.map (fun q => (q.1, q.2.γ E ρ)))
 | [], es, i, r, h, he => by
  have h : some none = some r := h
  cases h
  obtain rfl : es = [] := by simpa using he
  rfl
 | (a, b) :: l, es, i, r, h, he => by
  cases es with
  | nil => simp at he
  | cons e es =>
   simp only [List.map_cons, List.cons.injEq, Prod.mk.injEq] at he
   obtain ⟨⟨h1, h2⟩, h3⟩ := he
   have h : bc (zal (.one kd) a) (bc (V.beq (.i kd n) a) (zcE (jo (.one kd) (.i kd n) l (Nat.succ i)) (some (some (i, b)))) (jo (.one kd) (.i kd n) l (Nat.succ i))) none = some r := h
   cases hk : zal (.one kd) a with
   | false => rw [hk] at h; cases h
   | true =>
    rw [hk] at h
    have h : bc (V.beq (.i kd n) a) (zcE (jo (.one kd) (.i kd n) l (Nat.succ i)) (some (some (i, b)))) (jo (.one kd) (.i kd n) l (Nat.succ i)) = some r := h
    obtain ⟨m, rfl⟩ := zeY hk
    have h1 : e.key = .int kd m := h1
    have hb : V.beq (.i kd n) (.i kd m) = decide (n = m) := by
     have : kEq kd kd = true := by cases kd <;> rfl
     simp only [V.beq, this, yJ, Bool.true_and]
    rw [hb] at h
    by_cases hnm : n = m
    ·rw [decide_eq_true hnm] at h
     obtain ⟨_, h⟩ := zdI h
     cases h
     subst hnm
     simp [Instr.findNow, Instr.sameNow, h1, h2]
    ·rw [decide_eq_false hnm] at h
     have := zfY ρ l es (i + 1) r h h3
     simp [Instr.findNow, Instr.sameNow, h1, show (n == m) = false by simpa using hnm, this]
theorem zma {k : TypeId} {kd : IntKind} (hu : P.underlying k = some (.int kd)) : KeySpec P k (.one kd) where
 check := fun E ρ w em v hv => by
  obtain ⟨n, rfl⟩ := zeY hv
  exact MapKept.run_checkKey hu (k := .int kd n) rfl em 9999
 find := fun E ρ w v l r es hv hf he => by
  obtain ⟨n, rfl⟩ := zeY hv
  exact MapKept.run_findKey hu (zfY ρ l es 0 r hf he)
 checkS := fun E ρ w em v hv => by cases v <;> simp [zkm] at hv
 findS := fun E ρ w v l es hv => by cases v <;> simp [zkm] at hv
 stays := fun E ρ w v hv => by
  obtain ⟨n, rfl⟩ := zeY hv
  exact MapKept.run_keyThatStays (d := .int kd) (k := .int kd n) rfl
theorem zo3 : ∀ {l : List EK} {a b : List V}, jG l a = true -> jG l b = true -> eqL l a b = some (none, jB a b)
 | [], a, b, ha, hb => by
  cases a <;> cases b <;> simp [jG] at ha hb
  rfl
 | .bool :: l, a, b, ha, hb => by cases a <;> simp [jG] at ha
 | .int k :: l, a, b, ha, hb => by
  cases a with
  | nil => simp [jG] at ha
  | cons x a =>
   cases b with
   | nil => simp [jG] at hb
   | cons y b =>
    cases x <;> simp only [jG] at ha <;> first | (simp at ha; done) | skip
    cases y <;> simp only [jG] at hb <;> first | (simp at hb; done) | skip
    simp only [Bool.and_eq_true] at ha hb
    have h1 := yE ha.1
    have h2 := yE hb.1
    subst h1; subst h2
    have hk : kEq k k = true := by cases k <;> rfl
    simp only [eqL, eqC, hk, Bool.and_self, if_true, zo3 ha.2 hb.2, jB, V.beq, Bool.true_and, andO]
    rename_i n m
    cases iEq n m <;> cases jB a b <;> rfl
theorem zea : ∀ {l : List EK} {a : List V}, jG l a = true -> zaO l a = true
 | [], a, h => by cases a <;> simp [jG] at h; rfl
 | .bool :: l, a, h => by cases a <;> simp [jG] at h
 | .int k :: l, a, h => by
  cases a with
  | nil => simp [jG] at h
  | cons y a =>
   cases y <;> simp only [jG] at h <;> first | (simp at h; done) | skip
   simp only [Bool.and_eq_true] at h
   simp only [zaO, h.1, zea h.2, Bool.and_self]
theorem zdG (ρ : Rho) : ∀ {l : List EK} {a : List V}, zaO l a = true -> ∀ x ∈ γL E ρ a, ∃ k n, x = .int k n
 | [], a, h, x, hx => by
  cases a <;> simp [zaO] at h
  cases hx
 | .bool :: l, a, h, x, hx => by cases a <;> simp [zaO] at h
 | .int k :: l, a, h, x, hx => by
  cases a with
  | nil => cases hx
  | cons y a =>
   cases y <;> simp only [zaO] at h <;> first | (simp at h; done) | skip
   all_goals
    simp only [Bool.and_eq_true] at h
    rcases List.mem_cons.1 hx with rfl | hx
    ·exact ⟨_, _, rfl⟩
    ·exact zdG ρ h.2 x hx
theorem zpR (ρ : Rho) {l : List EK} {a : List V} (h : jG l a = true) : ∀ x ∈ γL E ρ a, ∃ k n, x = .int k n := zdG ρ (zea h)
theorem zjB : ∀ {l : List EK} {a : List V}, zaO l a = true -> a.length = l.length
 | [], a, h => by cases a <;> simp [zaO] at h; rfl
 | .bool :: l, a, h => by cases a <;> simp [zaO] at h
 | .int k :: l, a, h => by
  cases a with
  | nil => simp [zaO] at h
  | cons y a =>
   cases y <;> simp only [zaO] at h <;> first | (simp at h; done) | skip
   all_goals
    simp only [Bool.and_eq_true] at h
    simp [zjB h.2]
theorem exE_ok {e : SE} {n : Int} (h : exE e n = true) : e.den E ≠ n := by
 unfold exE at h
 split at h
 ·rename_i x a
  rw [zaC] at h
  have h := of_decide_eq_true h
  show (if SE.den E x < a then a else SE.den E x) ≠ n
  by_cases hc : SE.den E x < a
  ·rw [if_pos hc]; omega
  ·rw [if_neg hc]; omega
 ·rename_i x a
  rw [zaC] at h
  have h := of_decide_eq_true h
  show (if a < SE.den E x then a else SE.den E x) ≠ n
  by_cases hc : a < SE.den E x
  ·rw [if_pos hc]; omega
  ·rw [if_neg hc]; omega
 ·cases h
theorem zkx : ∀ {l : List EK} {a b : List V}, zaO l a = true -> jG l b = true -> ∃ c t, eqL l a b = some (c, t) /\ (exL a b = true -> yn E c t = false)
 | [], a, b, ha, hb => by
  cases a <;> simp [zaO] at ha
  cases b <;> simp [jG] at hb
  exact ⟨none, true, rfl, fun h => by cases h⟩
 | .bool :: l, a, b, ha, hb => by cases a <;> simp [zaO] at ha
 | .int k :: l, a, b, ha, hb => by
  cases b with
  | nil => simp [jG] at hb
  | cons y b =>
   cases y <;> simp only [jG] at hb <;> first | (simp at hb; done) | skip
   rename_i k2 m
   simp only [Bool.and_eq_true] at hb
   cases a with
   | nil => simp [zaO] at ha
   | cons x a =>
    have hk : kEq k k = true := by cases k <;> rfl
    cases x <;> simp only [zaO] at ha <;> first | (simp at ha; done) | skip
    ·rename_i k1 n
     simp only [Bool.and_eq_true] at ha
     obtain rfl := yE ha.1
     obtain rfl := yE hb.1
     obtain ⟨c, t, h1, h2⟩ := zkx ha.2 hb.2
     refine ⟨_, _, (by simp only [eqL, eqC, hk, Bool.and_self, if_true, h1]; rfl), fun hx => ?_⟩
     refine (zdO _ _ _ _).trans ?_
     have hx : bc (bc (iEq n m) false true) true (exL a b) = true := hx
     cases hnm : iEq n m with
     | false => simp [yn]
     | true =>
      rw [hnm] at hx
      rw [h2 hx, Bool.and_false]
    ·rename_i k1 e
     simp only [Bool.and_eq_true] at ha
     obtain rfl := yE ha.1
     obtain rfl := yE hb.1
     obtain ⟨c, t, h1, h2⟩ := zkx ha.2 hb.2
     refine ⟨_, _, (by simp only [eqL, eqC, toE, hk, Bool.and_self, if_true, h1]; rfl), fun hx => ?_⟩
     refine (zdO _ _ _ _).trans ?_
     have hx : bc (exE e m) true (exL a b) = true := hx
     cases hem : exE e m with
     | true =>
      have := exE_ok (E := E) hem
      simp [yn, SB.den, zce, yJ, SE.den, this]
     | false =>
      rw [hem] at hx
      rw [h2 hx, Bool.and_false]
theorem zeZ {l : List EK} {v : V} (h : zal (.agg l) v = true) : ∃ a, v = .agg a /\ jG l a = true := by
 cases v <;> simp only [zal] at h <;> first | (simp at h; done) | exact ⟨_, rfl, h⟩
theorem zfZ {k : TypeId} {l : List EK} (heq : ∀ (E : Env) (ρ : Rho) (w : World) xs ys c b, eqL l xs ys = some (c, b) -> (Op.equal k (.agg (γL E ρ xs).toArray) (.agg (γL E ρ ys).toArray)).run P w = .ok (yn E c b) w) (ρ : Rho) (w : World) {a : List V} (ha : jG l a = true) :
  ∀ (ps : List (V × V)) (es : List MapEntry) (i : Nat) (r : Option (Nat × V)), jo (.agg l) (.agg a) ps i = some r -> es.map (fun e => (e.key, e.val)) = ps.map (fun p => (p.1.γ E ρ, p.2.γ E ρ)) ->
   (Instr.findAsking k (.agg (γL E ρ a).toArray) es i).run P w = .ok (r.map (fun q => (q.1, q.2.γ E ρ))) w
 | [], es, i, r, h, he => by
  have h : some none = some r := h
  cases h
  obtain rfl : es = [] := by simpa using he
  simp [Instr.findAsking]
 | (x, b) :: ps, es, i, r, h, he => by
  cases es with
  | nil => simp at he
  | cons e es =>
   simp only [List.map_cons, List.cons.injEq, Prod.mk.injEq] at he
   obtain ⟨⟨h1, h2⟩, h3⟩ := he
   have h : bc (zal (.agg l) x) (bc (V.beq (.agg a) x) (zcE (jo (.agg l) (.agg a) ps (Nat.succ i)) (some (some (i, b)))) (jo (.agg l) (.agg a) ps (Nat.succ i))) none = some r := h
   cases hk : zal (.agg l) x with
   | false => rw [hk] at h; cases h
   | true =>
    rw [hk] at h
    have h : bc (V.beq (.agg a) x) (zcE (jo (.agg l) (.agg a) ps (Nat.succ i)) (some (some (i, b)))) (jo (.agg l) (.agg a) ps (Nat.succ i)) = some r := h
    obtain ⟨y, rfl, hy⟩ := zeZ hk
    have h1 : e.key = .agg (γL E ρ y).toArray := h1
    have zv := heq E ρ w a y none (jB a y) (zo3 ha hy)
    have hcb : yn E none (jB a y) = jB a y := by simp [yn]
    rw [hcb] at zv
    have hvb : V.beq (.agg a) (.agg y) = jB a y := by simp only [V.beq]
    rw [hvb] at h
    cases hb : jB a y with
    | true =>
     rw [hb] at h zv
     obtain ⟨_, h⟩ := zdI h
     cases h
     simp [Instr.findAsking, h1, h2, zv]
    | false =>
     rw [hb] at h zv
     have := zfZ heq ρ w ha ps es (i + 1) r h h3
     simp [Instr.findAsking, h1, zv, this]
theorem ze1 {e : TypeId} (h : zeh P e = true) : (∃ kd, P.underlying e = some (.int kd)) /\ zbC P e = true /\ yw P e = 1 := by
 unfold zeh at h
 simp only [Bool.and_eq_true, Nat.beq_eq] at h
 refine ⟨?_, h.1.2, h.2⟩
 have := h.1.1
 split at this
 ·rename_i kd hk; exact ⟨kd, hk⟩
 ·cases this
theorem zjg {e : TypeId} (h : zeh P e = true) (em : Bool) (n : Nat) (x : Value) (w : World) (hx : ∃ k m, x = .int k m) : (Instr.checkKey em (n + 1) e x).run P w = .ok () w := by
 obtain ⟨⟨kd, hu⟩, _⟩ := ze1 h
 obtain ⟨k, m, rfl⟩ := hx
 simp [Instr.checkKey, run_underlying hu]
theorem zlS {e : TypeId} (h : zeh P e = true) (ρ : Rho) (w : World) {a : List V} {off : Nat} (ho : off < a.length) : (Go.part e (γL E ρ a).toArray off).run P w = .ok ((a[off]).γ E ρ) w := by
 obtain ⟨⟨kd, hu⟩, h2, h3⟩ := ze1 h
 have hg : za2 P e = false := by rw [zfd hu]; rfl
 refine (zcn (E := E) (w := w) h2 (ρ := ρ) (l := a) (o := off) (v := a[off]) ?_).1
 rw [hg]
 unfold Go.Ev.part
 simp only [Bool.false_eq_true, if_false]
 rw [jY]
 simp [ho]
theorem zfW {k : TypeId} {l : List EK} (hl : eqT P k = some l) (hwide : (match P.underlying k with | some (.array _ _) | some (.struct _) => true | _ => false) = true)
  (hc : ∀ (E : Env) (ρ : Rho) (w : World) (em : Bool) (a : List V), zaO l a = true -> (Instr.checkKey em 10000 k (.agg (γL E ρ a).toArray)).run P w = .ok () w) : KeySpec P k (.agg l) where
 check := fun E ρ w em v hv => by
  obtain ⟨a, rfl, ha⟩ := zeZ hv
  exact hc E ρ w em a (zea ha)
 checkS := fun E ρ w em v hv => by
  cases v <;> simp only [zkm] at hv <;> first | (simp at hv; done) | exact hc E ρ w em _ hv
 findS := fun E ρ w v ps es hv hx he => by
  cases v <;> simp only [zkm] at hv <;> first | (simp at hv; done) | skip
  rename_i a
  show (Instr.findKey k (.agg (γL E ρ a).toArray) es).run P w = .ok none w
  rw [run_findKey_eq w hwide]
  generalize 0 = i
  induction ps generalizing es i with
  | nil =>
   obtain rfl : es = [] := by simpa using he
   simp [Instr.findAsking]
  | cons p ps ih =>
   cases es with
   | nil => simp at he
   | cons e es =>
    simp only [List.map_cons, List.cons.injEq, Prod.mk.injEq] at he
    obtain ⟨⟨h1, h2⟩, h3⟩ := he
    have hp := hx p (List.mem_cons_self ..)
    obtain ⟨p1, p2⟩ := p
    cases p1 <;> simp only [exK] at hp <;> first | (simp at hp; done) | skip
    rename_i y
    simp only [Bool.and_eq_true] at hp
    obtain ⟨c, t, g1, g2⟩ := zkx (E := E) hv hp.1
    have zv := (zdv k l hl).2 E ρ w a y c t g1
    rw [g2 hp.2] at zv
    have h1 : e.key = .agg (γL E ρ y).toArray := h1
    have := ih es h3 (fun q hq => hx q (List.mem_cons_of_mem _ hq)) (i + 1)
    simp [Instr.findAsking, h1, zv, this]
 find := fun E ρ w v ps r es hv hf he => by
  obtain ⟨a, rfl, ha⟩ := zeZ hv
  have h1 := zfZ (P := P) (k := k) (zdv k l hl).2 ρ w ha ps es 0 r hf he
  rw [<- run_findKey_eq w hwide] at h1
  exact h1
 stays := fun E ρ w v hv => by
  obtain ⟨a, rfl, ha⟩ := zeZ hv
  have hs : Instr.sameBits 10000 (.agg (γL E ρ a).toArray) (.agg (γL E ρ a).toArray) = true := by
   show Instr.sameBits (9999 + 1) _ _ = true
   simp only [Instr.sameBits, beq_self_eq_true, Bool.true_and, List.all_eq_true]
   intro p hp
   obtain ⟨i, hi, e⟩ := List.getElem_of_mem hp
   rw [List.getElem_zip] at e
   rw [<- e]
   obtain ⟨kk, n, hx⟩ := zpR (E := E) ρ ha _ (List.getElem_mem (by simpa using hi))
   simp only [List.toList_toArray] at hx ⊢
   rw [hx]
   simp [Instr.sameBits]
  simp [Instr.keyThatStays, V.γ, hs]
theorem kk_ok {k : TypeId} {kk : KK} (h : kkOf P k = some kk) : KeySpec P k kk := by
 unfold kkOf at h
 split at h
 ·rename_i kd hu
  cases h
  exact zma hu
 ·rename_i n e hu
  split at h
  ·rename_i l hl
   split at h
   ·rename_i hc
    simp only [Bool.and_eq_true, Nat.beq_eq, js] at hc
    cases h
    refine zfW hl (by rw [hu]) fun E ρ w em a ha => ?_
    have hlen := zjB ha
    obtain ⟨i, hi, his⟩ := zdL (ze1 hc.1).2.1
    have hsz := (ze1 hc.1).2.2
    rw [show (10000 : Nat) = 9999 + 1 from rfl, Instr.checkKey]
    simp only [Sem.run_bind, run_underlying hu, Result.andThen_ok]
    simp only [Std.Legacy.Range.forIn_eq_forIn_range', Std.Legacy.Range.size, Nat.sub_zero, Nat.add_one_sub_one, Nat.div_one]
    have each : ∀ j ∈ List.range' 0 n, j < a.length := fun j hj => by
     have := List.mem_range'_1.1 hj
     omega
    generalize List.range' 0 n = is at each
    induction is with
    | nil => simp
    | cons j is ih =>
     have hj := each j (by simp)
     have p1 := zlS (E := E) hc.1 ρ w hj
     obtain ⟨kk, m, hx⟩ := zdG (E := E) ρ ha ((a[j]).γ E ρ) (by rw [γL_eq]; exact List.mem_map.2 ⟨_, List.getElem_mem hj, rfl⟩)
     have p2 := zjg hc.1 em 9998 ((a[j]).γ E ρ) w ⟨kk, m, hx⟩
     have hs : (sizeOf e).run P w = .ok 1 w := by rw [(zaf (ze1 hc.1).2.1).1, hsz]
     simp only [List.forIn_cons, Sem.run_bind, hs, Nat.mul_one, Result.andThen_ok, p1, p2, Sem.run_pure]
     exact ih (fun y hy => each y (by simp [hy]))
   ·cases h
  ·cases h
 ·rename_i fl hu
  split at h
  ·rename_i l hl
   split at h
   ·rename_i hc
    cases h
    refine zfW hl (by rw [hu]) fun E ρ w em a ha => ?_
    have hlen := zjB ha
    have each : ∀ f ∈ fl.toList, f.name ≠ "_" /\ zeh P f.type = true /\ f.offset < a.length := fun f hf => by
     have := (zdQ _ _).1 hc f hf
     simp only [Bool.and_eq_true, decide_eq_true_eq, js, Nat.blt_eq] at this
     exact ⟨this.1.1, this.1.2, by omega⟩
    rw [show (10000 : Nat) = 9999 + 1 from rfl, Instr.checkKey]
    simp only [Sem.run_bind, run_underlying hu, Result.andThen_ok]
    rw [<- Array.forIn_toList]
    generalize fl.toList = L at each
    induction L with
    | nil => simp
    | cons f L ih =>
     obtain ⟨hn, ht, ho⟩ := each f (by simp)
     have p1 := zlS (E := E) ht ρ w ho
     obtain ⟨kk, m, hx⟩ := zdG (E := E) ρ ha ((a[f.offset]).γ E ρ) (by rw [γL_eq]; exact List.mem_map.2 ⟨_, List.getElem_mem ho, rfl⟩)
     have p2 := zjg ht em 9998 ((a[f.offset]).γ E ρ) w ⟨kk, m, hx⟩
     simp only [List.forIn_cons, Sem.run_bind, hn, ne_eq, not_false_eq_true, if_true, Result.andThen_ok, p1, p2, Sem.run_pure]
     exact ih (fun y hy => each y (by simp [hy]))
   ·cases h
  ·cases h
 ·cases h
theorem zl1 : MpSpec P (zP P) := by
 intro t kk z h
 have h : mpT P t = some (kk, z) := h
 unfold mpT at h
 split at h
 ·rename_i k e hu
  split at h
  ·rename_i kk' z' h1 h2
   cases h
   exact ⟨k, e, hu, kk_ok h1, h2⟩
  ·cases h
 ·cases h
theorem zaw : TyOk P (zP P) := ⟨fun t => .inr rfl, zdv, zl1⟩
end Go.Ev
end
set_option linter.unusedSimpArgs false
set_option linter.unusedVariables false
noncomputable section
namespace Go.Ev
open Go
variable {E : Env} {P : Program}
def ziV : PT O -> PT O -> Bool
 | .e, .e => true
 | .n v l r, .n v' l' r' => zdk v v' && ziV l l' && ziV r r'
 | _, _ => false
theorem zhe : ∀ {x y : PT O}, ziV x y = true -> x = y
 | .e, y, h => by cases y <;> simp only [ziV] at h <;> first | (simp at h; done) | rfl
 | .n v l r, y, h => by cases y <;> simp only [ziV, Bool.and_eq_true] at h <;> first | (simp at h; done) | rw [zbP h.1.1, zhe h.1.2, zhe h.2]
def H.beq (a b : H) : Bool := hc a (fun n lo t => hc b (fun n' lo' t' => pEq n n' && pEq lo lo' && ziV t t'))
theorem H.beq_ok {a b : H} (h : H.beq a b = true) : a = b := by
 cases a; cases b
 simp only [H.beq, zby, Bool.and_eq_true] at h
 rw [zak h.1.1, zak h.1.2, zhe h.2]
structure Memo where
 F : Nat
 l : List V
 h : H
 v : V
 h' : H
def memo (m : Memo) (inner : z5) : z5 := fun F l h fa k => bc (Nat.beq F m.F) (bc (jB l m.l) (bc (H.beq h m.h) (k m.v m.h' fa) (inner F l h fa k)) (inner F l h fa k)) (inner F l h fa k)
end Go.Ev
end
set_option linter.unusedSimpArgs false
set_option linter.unusedVariables false
noncomputable section
namespace Go.Ev
open Go
variable {E : Env} {P : Program}
def ooSub : Option O -> Option O -> Bool
 | none, _ => true
 | some a, some b => O.beq a b
 | _, _ => false
theorem zr1 {x y : Option O} (h : ooSub x y = true) {o : O} (hx : x = some o) : y = some o := by
 subst hx
 cases y <;> simp only [ooSub] at h <;> first | (simp at h; done) | rw [O.beq_ok h]
def ziU : PT O -> PT O -> Bool
 | .e, _ => true
 | .n v l r, .n v' l' r' => ooSub v v' && ziU l l' && ziU r r'
 | _, _ => false
theorem zhd : ∀ (a b : PT O), ziU a b = true -> ∀ (p : Ev.P) (o : O), a.get p = some o -> b.get p = some o
 | .e, b, h, p, o, hp => by rw [PT.get_e] at hp; simp at hp
 | .n v l r, .e, h, p, o, hp => by simp [ziU] at h
 | .n v l r, .n v' l' r', h, p, o, hp => by
  simp only [ziU, Bool.and_eq_true] at h
  cases p with
  | h => exact zr1 h.1.1 hp
  | o p => exact zhd l l' h.1.2 p o hp
  | i p => exact zhd r r' h.2 p o hp
def chk (v : V) (hq : H) : K := fun v2 h2 _ => bc (V.beq v2 v) (bc (hc hq (fun n lo t => hc h2 (fun n' lo' t' => pEq n n' && pEq lo lo' && ziU t t'))) 0 1) 1
theorem chk_ok {v v2 : V} {hq h2 : H} {fa : Fa} (h : chk v hq v2 h2 fa = 0) : v2 = v /\ hq.n = h2.n /\ hq.lo = h2.lo /\ ∀ p o, hq.t.get p = some o -> h2.t.get p = some o := by
 obtain ⟨e1, h⟩ := zN (show bc (V.beq v2 v) _ 1 = 0 from h) (by simp)
 obtain ⟨e2, _⟩ := zN (show bc (hc hq _) 0 1 = 0 from h) (by simp)
 rw [zby, zby] at e2
 simp only [Bool.and_eq_true] at e2
 exact ⟨V.beq_ok e1, zak e2.1.1, zak e2.1.2, zhd _ _ e2.2⟩
end Go.Ev
end
set_option linter.unusedSimpArgs false
set_option linter.unusedVariables false
noncomputable section
namespace Go.Ev
open Go
variable {E : Env} {P : Program}
def zeN (f : List V -> Option V) : List V -> H -> Fa -> K -> Nat := fun l h fa k => oc (f l) (fun v => k v h fa) 1
theorem zlQ {F : Nat} {f : List V -> Option V} (hca : jJ P F)
  (hf : ∀ l v, f l = some v -> v.bd 0 /\ ∀ (E : Env) (ρ : Rho) (w : World), Calls P F (γL E ρ l).toArray w fun e w' => e = .returned (v.γ E ρ) /\ w'.heap = w.heap /\ w'.os = w.os /\ w'.tape = w.tape /\ w'.output = w.output) :
  zk E P (fun G l h fa k => bc (Nat.beq G F) (zeN f l h fa k) 1) := by
 intro G l h fa k hk hfa
 obtain ⟨hG, hk2⟩ := zN (show bc (Nat.beq G F) (zeN f l h fa k) 1 = 0 from hk) (by simp)
 clear hk
 have hG : G = F := by simpa using hG
 subst hG
 obtain ⟨v, hv, hk⟩ := ya (show oc (f l) _ 1 = 0 from hk2) (by simp)
 obtain ⟨h1, h2⟩ := hf l v hv
 refine ⟨hca, v, h, fa, hk, hfa, fun ρ w hb hs => (h2 E ρ w).mono ?_⟩
 rintro e w' ⟨he, hh, ho, ht, hu⟩
 exact ⟨ρ, he, ⟨fun p o hp => by rw [hh]; exact hs.obj p o hp, hs.inj, hs.bd⟩,
  ⟨Nat.le_refl _, rfl, fun _ _ => rfl, fun p o h3 h4 => by have := (hs.bd p o h4).1; omega, ho, ht, hu, by rw [hh]; exact Nat.le_refl _, fun _ _ _ => by rw [hh], fun _ _ _ => rfl, fun p o _ h3 h4 => ⟨o, h3, h4⟩⟩, bd_mono (Nat.zero_le _) v h1⟩
def znF : List V -> Option V
 | [.i .u64 (.ofNat n)] => bc (Nat.blt n 18446744073709551616) (some (.i .i64 (.ofNat (Lib.bitLen n)))) none
 | _ => none
theorem zsv {F : Nat} (hca : jJ P F)
  (hc : ∀ (x : Int) (w : World), 0 <= x -> x <= 18446744073709551615 -> Calls P F #[.int .u64 x] w fun e w' => e = .returned (.int .i64 (Lib.bitLen x.toNat)) /\ w' = w) :
  zk E P (fun G l h fa k => bc (Nat.beq G F) (zeN znF l h fa k) 1) := by
 refine zlQ hca fun l v hv => ?_
 unfold znF at hv
 split at hv
 ·rename_i n
  cases hn : Nat.blt n 18446744073709551616 with
  | false => rw [hn] at hv; cases hv
  | true =>
   rw [hn] at hv
   have hv : some (V.i .i64 (.ofNat (Lib.bitLen n))) = some v := hv
   cases hv
   have hn : n < 18446744073709551616 := by simpa using hn
   refine ⟨trivial, fun E ρ w => (hc (.ofNat n) w (Int.natCast_nonneg n) (by show (n : Int) <= _; omega)).mono ?_⟩
   rintro e w' ⟨rfl, rfl⟩
   exact ⟨rfl, rfl, rfl, rfl, rfl⟩
 ·cases hv
end Go.Ev
end
