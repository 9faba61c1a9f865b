/-
  What the evaluator's values and things stand for; how worlds follow one another.
-/
import Derived.Test.YtapeacnagpphjaaGreatEvB
set_option linter.unusedSimpArgs false
set_option linter.unusedVariables false
noncomputable section
namespace Go.Ev
open Go

/-- where a thing lies: its block; its capacity, if it is hidden -/
structure Pl where
  b : Nat
  c : Nat
abbrev Rho := P → Pl
variable (E : Env)
mutual
def V.γ (ρ : Rho) : V → Value
  | .b x => .bool x
  | .i k n => .int k n
  | .sb c => .bool (c.den E)
  | .si k e => .int k (e.den E)
  | .ptr id off => .pointer (some ⟨(ρ id).b, off, none⟩)
  | .nil => .pointer none
  | .sl id off n c => .slice (some ⟨(ρ id).b, off, none⟩) n c
  | .vec id n => .slice (some ⟨(ρ id).b, 0, none⟩) n (ρ id).c
  | .snil => .slice none 0 0
  | .fn F p l => .func (.func F) (γL ρ p).toArray (γL ρ l).toArray
  | .fnil => .nilFunc
  | .agg l => .agg (γL ρ l).toArray
  | .tup l => .tuple (γL ρ l).toArray
def γL (ρ : Rho) : List V → List Value
  | [] => []
  | v :: r => v.γ ρ :: γL ρ r
end
mutual
def V.bd (n : Nat) : V → Prop
  | .ptr id _ => id.toNat < n
  | .sl id _ _ _ => id.toNat < n
  | .vec id _ => id.toNat < n
  | .fn _ p l => bdL n p ∧ bdL n l
  | .agg l => bdL n l
  | .tup l => bdL n l
  | _ => True
def bdL (n : Nat) : List V → Prop
  | [] => True
  | v :: r => v.bd n ∧ bdL n r
end
theorem γL_eq (ρ : Rho) (l : List V) : γL E ρ l = l.map (V.γ E ρ) := by
  induction l with
  | nil => rfl
  | cons v r ih => simp [γL, ih]
theorem bdL_eq (n : Nat) (l : List V) : bdL n l ↔ ∀ v ∈ l, v.bd n := by
  induction l with
  | nil => simp [bdL]
  | cons v r ih => simp [bdL, ih]
theorem γL_get (ρ : Rho) (l : List V) (i : Nat) : (γL E ρ l)[i]? = (l[i]?).map (V.γ E ρ) := by rw [γL_eq]; simp
theorem γL_length (ρ : Rho) (l : List V) : (γL E ρ l).length = l.length := by rw [γL_eq]; simp
theorem γL_take (ρ : Rho) (l : List V) (n : Nat) : γL E ρ (l.take n) = (γL E ρ l).take n := by simp [γL_eq, List.map_take]
theorem γL_drop (ρ : Rho) (l : List V) (n : Nat) : γL E ρ (l.drop n) = (γL E ρ l).drop n := by simp [γL_eq, List.map_drop]
theorem γL_app (ρ : Rho) (l m : List V) : γL E ρ (l ++ m) = γL E ρ l ++ γL E ρ m := by simp [γL_eq]
mutual
theorem bd_mono {n m : Nat} (h : n ≤ m) : ∀ v : V, v.bd n → v.bd m
  | .b _ => fun _ => trivial
  | .i _ _ => fun _ => trivial
  | .sb _ => fun _ => trivial
  | .si _ _ => fun _ => trivial
  | .ptr _ _ => fun h1 => Nat.lt_of_lt_of_le h1 h
  | .nil => fun _ => trivial
  | .sl _ _ _ _ => fun h1 => Nat.lt_of_lt_of_le h1 h
  | .vec _ _ => fun h1 => Nat.lt_of_lt_of_le h1 h
  | .snil => fun _ => trivial
  | .fn _ p c => fun h1 => ⟨bdL_mono h p h1.1, bdL_mono h c h1.2⟩
  | .fnil => fun _ => trivial
  | .agg l => fun h1 => bdL_mono h l h1
  | .tup l => fun h1 => bdL_mono h l h1
theorem bdL_mono {n m : Nat} (h : n ≤ m) : ∀ l : List V, bdL n l → bdL m l
  | [] => fun _ => trivial
  | v :: r => fun h1 => ⟨bd_mono h v h1.1, bdL_mono h r h1.2⟩
end
mutual
theorem γ_agree {ρ ρ' : Rho} {n : Nat} (h : ∀ i : P, i.toNat < n → ρ' i = ρ i) : ∀ v : V, v.bd n → v.γ E ρ' = v.γ E ρ
  | .b _ => fun _ => rfl
  | .i _ _ => fun _ => rfl
  | .sb _ => fun _ => rfl
  | .si _ _ => fun _ => rfl
  | .ptr id _ => fun h1 => by simp only [V.γ]; rw [h id h1]
  | .nil => fun _ => rfl
  | .sl id _ _ _ => fun h1 => by simp only [V.γ]; rw [h id h1]
  | .vec id _ => fun h1 => by simp only [V.γ]; rw [h id h1]
  | .snil => fun _ => rfl
  | .fn _ p c => fun h1 => by simp only [V.γ]; rw [γL_agree h p h1.1, γL_agree h c h1.2]
  | .fnil => fun _ => rfl
  | .agg l => fun h1 => by simp only [V.γ]; rw [γL_agree h l h1]
  | .tup l => fun h1 => by simp only [V.γ]; rw [γL_agree h l h1]
theorem γL_agree {ρ ρ' : Rho} {n : Nat} (h : ∀ i : P, i.toNat < n → ρ' i = ρ i) : ∀ l : List V, bdL n l → γL E ρ' l = γL E ρ l
  | [] => fun _ => rfl
  | v :: r => fun h1 => by simp only [γL]; rw [γ_agree h v h1.1, γL_agree h r h1.2]
end
mutual
theorem ofV_γ (ρ : Rho) : ∀ (v : Value) (x : V), ofV v = some x → x.γ E ρ = v ∧ x.bd 0
  | .bool b, x => fun h => by simp [ofV] at h; subst h; exact ⟨rfl, trivial⟩
  | .int k n, x => fun h => by simp [ofV] at h; subst h; exact ⟨rfl, trivial⟩
  | .float _ _, x => fun h => by simp [ofV] at h
  | .complex _ _ _, x => fun h => by simp [ofV] at h
  | .string _, x => fun h => by simp [ofV] at h
  | .pointer none, x => fun h => by simp [ofV] at h; subst h; exact ⟨rfl, trivial⟩
  | .pointer (some _), x => fun h => by simp [ofV] at h
  | .slice none n c, x => fun h => by
      cases n <;> cases c <;> simp [ofV] at h
      subst h; exact ⟨rfl, trivial⟩
  | .slice (some _) _ _, x => fun h => by simp [ofV] at h
  | .map _, x => fun h => by simp [ofV] at h
  | .chan _, x => fun h => by simp [ofV] at h
  | .func _ _ _, x => fun h => by simp [ofV] at h
  | .nilFunc, x => fun h => by simp [ofV] at h; subst h; exact ⟨rfl, trivial⟩
  | .iface _ _, x => fun h => by simp [ofV] at h
  | .nilIface, x => fun h => by simp [ofV] at h
  | .agg l, x => fun h => by
      simp only [ofV, Option.map_eq_some_iff] at h
      obtain ⟨m, h1, rfl⟩ := h
      obtain ⟨h2, h3⟩ := ofL_γ ρ l.toList m h1
      exact ⟨by simp [V.γ, h2], h3⟩
  | .tuple l, x => fun h => by
      simp only [ofV, Option.map_eq_some_iff] at h
      obtain ⟨m, h1, rfl⟩ := h
      obtain ⟨h2, h3⟩ := ofL_γ ρ l.toList m h1
      exact ⟨by simp [V.γ, h2], h3⟩
theorem ofL_γ (ρ : Rho) : ∀ (l : List Value) (m : List V), ofL l = some m → γL E ρ m = l ∧ bdL 0 m
  | [], m => fun h => by simp [ofL] at h; subst h; exact ⟨rfl, trivial⟩
  | v :: r, m => fun h => by
      simp only [ofL] at h
      split at h
      · rename_i a b h1 h2
        simp at h; subst h
        obtain ⟨e1, b1⟩ := ofV_γ ρ v a h1
        obtain ⟨e2, b2⟩ := ofL_γ ρ r b h2
        exact ⟨by simp [γL, e1, e2], b1, b2⟩
      · simp at h
end
theorem cells_γ (ρ : Rho) (v : V) : (v.γ E ρ).cells = (γL E ρ v.cells).toArray := by
  cases v <;> simp [V.γ, V.cells, Value.cells, γL]
theorem cells_bd {n : Nat} {v : V} (h : v.bd n) : bdL n v.cells := by
  cases v <;> simp_all [V.cells, V.bd, bdL]
theorem one_γ (ρ : Rho) {v : V} (h : v.one = true) : (v.γ E ρ).oneCell' = true := by
  cases v <;> simp_all [V.one, V.γ, Value.oneCell']
theorem one_cells {v : V} (h : v.one = true) : v.cells = [v] := by
  cases v <;> simp_all [V.one, V.cells]
/-- the frame's slots -/
def FrOk (ρ : Rho) (n : Nat) (fr : Fr) (tmps : Array Value) : Prop := ∀ t v, fr.get (keyOf t) = some v → tmps[t]? = some (v.γ E ρ) ∧ v.bd n

/-! ### things -/
def trAt (tr : Tr V) (d : Nat) (z : V) (i : Nat) : V := (tr.get d i).getD z
/-- what the heap says of a place -/
def O.Is (ρ : Rho) (L : Pl) (hp : Array Obj) : O → Prop
  | .cells t l => hp[L.b]? = some (.cells (γL E ρ l).toArray t (0, 0))
  | .arr t n d z tr => n ≤ 2 ^ d ∧ ∃ cs : Array Value, hp[L.b]? = some (.cells cs t (0, 0)) ∧ cs.size = n ∧ ∀ i, i < n → cs[i]? = some ((trAt tr d z i).γ E ρ)
  | .vec t e n l => ∃ cs : Array Value, hp[L.b]? = some (.cells cs t (0, 0)) ∧ cs.size = L.c * e ∧ n ≤ L.c ∧ L.c ≤ maxLen ∧ l.length = n * e ∧ ∀ i, i < l.length → cs[i]? = (l[i]?).map (V.γ E ρ)
  | .varr t n d z tr => n ≤ 2 ^ d ∧ ∃ cs : Array Value, hp[L.b]? = some (.cells cs t (0, 0)) ∧ cs.size = L.c ∧ n ≤ L.c ∧ L.c ≤ maxLen ∧ ∀ i, i < n → cs[i]? = some ((trAt tr d z i).γ E ρ)
  | .dead => True
def O.bd (n : Nat) : O → Prop
  | .cells _ l => bdL n l
  | .arr _ _ d z tr => z.bd n ∧ ∀ i v, i < 2 ^ d → tr.get d i = some v → v.bd n
  | .vec _ _ _ l => bdL n l
  | .varr _ _ d z tr => z.bd n ∧ ∀ i v, i < 2 ^ d → tr.get d i = some v → v.bd n
  | .dead => True
def O.live : O → Bool
  | .dead => false
  | _ => true
theorem trAt_bd {tr : Tr V} {d : Nat} {z : V} {n i : Nat} (h : z.bd n ∧ ∀ i v, i < 2 ^ d → tr.get d i = some v → v.bd n) (hi : i < 2 ^ d) : (trAt tr d z i).bd n := by
  unfold trAt
  cases e : tr.get d i with
  | none => exact h.1
  | some v => exact h.2 i v hi e
theorem O.bd_mono {n m : Nat} (h : n ≤ m) (o : O) (hb : o.bd n) : o.bd m := by
  cases o with
  | cells t l => exact bdL_mono h l hb
  | arr t k d z tr => exact ⟨Ev.bd_mono h z hb.1, fun i v hi hv => Ev.bd_mono h v (hb.2 i v hi hv)⟩
  | vec t e k l => exact bdL_mono h l hb
  | varr t k d z tr => exact ⟨Ev.bd_mono h z hb.1, fun i v hi hv => Ev.bd_mono h v (hb.2 i v hi hv)⟩
  | dead => trivial
theorem O.Is_agree {ρ ρ' : Rho} {n : Nat} (h : ∀ i : P, i.toNat < n → ρ' i = ρ i) {o : O} (hb : o.bd n) {L : Pl} {hp : Array Obj} (hi : o.Is E ρ L hp) : o.Is E ρ' L hp := by
  cases o with
  | cells t l => simp only [O.Is] at hi ⊢; rw [γL_agree E h l hb]; exact hi
  | arr t k d z tr =>
    obtain ⟨h1, cs, h2, h3, h4⟩ := hi
    refine ⟨h1, cs, h2, h3, fun i hi => ?_⟩
    rw [h4 i hi, γ_agree E h _ (trAt_bd hb (by omega))]
  | vec t e k l =>
    obtain ⟨cs, h2, h3, h4, h5, h6, h7⟩ := hi
    refine ⟨cs, h2, h3, h4, h5, h6, fun i hi => ?_⟩
    rw [h7 i hi]
    have e : l[i]? = some l[i] := by simp [hi]
    rw [e]
    simp only [Option.map_some]
    rw [γ_agree E h _ ((bdL_eq n l).1 hb _ (List.getElem_mem hi))]
  | varr t k d z tr =>
    obtain ⟨h1, cs, h2, h3, h4, h5, h6⟩ := hi
    refine ⟨h1, cs, h2, h3, h4, h5, fun i hi => ?_⟩
    rw [h6 i hi, γ_agree E h _ (trAt_bd hb (by omega))]
  | dead => trivial
theorem O.Is_heap {ρ : Rho} {L : Pl} {hp hp' : Array Obj} {o : O} (he : o.live = true → hp'[L.b]? = hp[L.b]?) (hi : o.Is E ρ L hp) : o.Is E ρ L hp' := by
  cases o with
  | cells t l => simp only [O.Is] at hi ⊢; rw [he rfl]; exact hi
  | arr t k d z tr => simp only [O.Is] at hi ⊢; rw [he rfl]; exact hi
  | vec t e k l => simp only [O.Is] at hi ⊢; rw [he rfl]; exact hi
  | varr t k d z tr => simp only [O.Is] at hi ⊢; rw [he rfl]; exact hi
  | dead => trivial
theorem lt_of_some {hp : Array Obj} {b : Nat} {x : Obj} (h : hp[b]? = some x) : b < hp.size := by
  rcases Nat.lt_or_ge b hp.size with h1 | h1
  · exact h1
  · simp [Array.getElem?_eq_none h1] at h
theorem O.Is_lt {ρ : Rho} {L : Pl} {hp : Array Obj} {o : O} (hi : o.Is E ρ L hp) (hl : o.live = true) : L.b < hp.size := by
  cases o with
  | cells t l => exact lt_of_some hi
  | arr t k d z tr => obtain ⟨_, cs, h, _⟩ := hi; exact lt_of_some h
  | vec t e k l => obtain ⟨cs, h, _⟩ := hi; exact lt_of_some h
  | varr t k d z tr => obtain ⟨_, cs, h, _⟩ := hi; exact lt_of_some h
  | dead => simp [O.live] at hl

/-- the world holds what the things say, each thing in a block of its own -/
structure Sat (ρ : Rho) (h : H) (w : World) : Prop where
  obj : ∀ p o, h.t.get p = some o → o.Is E ρ (ρ p) w.heap
  inj : ∀ p q o o', h.t.get p = some o → h.t.get q = some o' → o.live = true → o'.live = true → (ρ p).b = (ρ q).b → p = q
  bd : ∀ p o, h.t.get p = some o → p.toNat < h.n.toNat ∧ o.bd h.n.toNat
theorem Sat.lt {ρ : Rho} {h : H} {w : World} (s : Sat E ρ h w) {p : P} {o : O} (hp : h.t.get p = some o) (hl : o.live = true) : (ρ p).b < w.heap.size :=
  O.Is_lt E (s.obj p o hp) hl
/-- what a step leaves as it was -/
structure Ext (ρ : Rho) (h : H) (w : World) (ρ' : Rho) (h' : H) (w' : World) : Prop where
  len : h.n.toNat ≤ h'.n.toNat
  lo : h'.lo = h.lo
  agree : ∀ p : P, p.toNat < h.n.toNat → ρ' p = ρ p
  new : ∀ p o, h.n.toNat ≤ p.toNat → h'.t.get p = some o → o.live = true → w.heap.size ≤ (ρ' p).b ∨ ∃ q o', h.t.get q = some o' ∧ o'.live = true ∧ h.lo.toNat ≤ q.toNat ∧ (ρ q).b = (ρ' p).b
  os : w'.os = w.os
  tape : w'.tape = w.tape
  output : w'.output = w.output
  size : w.heap.size ≤ w'.heap.size
  keep : ∀ b, b < w.heap.size → (∀ p o, h.t.get p = some o → o.live = true → h.lo.toNat ≤ p.toNat → (ρ p).b ≠ b) → w'.heap[b]? = w.heap[b]?
  old : ∀ p : P, p.toNat < h.lo.toNat → p.toNat < h.n.toNat → h'.t.get p = h.t.get p
  liv : ∀ p o', p.toNat < h.n.toNat → h'.t.get p = some o' → o'.live = true → ∃ o, h.t.get p = some o ∧ o.live = true
theorem Ext.refl (ρ : Rho) (h : H) (w : World) (hn : ∀ p o, h.t.get p = some o → p.toNat < h.n.toNat) : Ext ρ h w ρ h w :=
  ⟨Nat.le_refl _, rfl, fun _ _ => rfl, fun p o h1 h2 => by have := hn p o h2; omega, rfl, rfl, rfl, Nat.le_refl _, fun _ _ _ => rfl, fun _ _ _ => rfl, fun p o _ h1 h2 => ⟨o, h1, h2⟩⟩
theorem Sat.refl {ρ : Rho} {h : H} {w : World} (s : Sat E ρ h w) : Ext ρ h w ρ h w := Ext.refl ρ h w (fun p o hp => (s.bd p o hp).1)
theorem Ext.trans {ρ ρ1 ρ2 : Rho} {h h1 h2 : H} {w w1 w2 : World} (a : Ext ρ h w ρ1 h1 w1) (b : Ext ρ1 h1 w1 ρ2 h2 w2) : Ext ρ h w ρ2 h2 w2 := by
  refine ⟨Nat.le_trans a.len b.len, b.lo.trans a.lo, fun i hi => ?_, fun p o hp hg hl => ?_, b.os.trans a.os, b.tape.trans a.tape, b.output.trans a.output, Nat.le_trans a.size b.size, fun k hk hn => ?_, fun p hp hq => ?_, fun p o hp hg hl => ?_⟩
  · rw [b.agree i (Nat.lt_of_lt_of_le hi a.len), a.agree i hi]
  · by_cases h3 : p.toNat < h1.n.toNat
    · obtain ⟨o1, g1, l1⟩ := b.liv p o h3 hg hl
      rw [b.agree p h3]; exact a.new p o1 hp g1 l1
    · rcases b.new p o (by omega) hg hl with h4 | ⟨q, o', g1, l1, q1, e1⟩
      · exact .inl (Nat.le_trans a.size h4)
      · rw [← e1]
        by_cases h5 : q.toNat < h.n.toNat
        · obtain ⟨o2, g2, l2⟩ := a.liv q o' h5 g1 l1
          rw [a.agree q h5]
          exact .inr ⟨q, o2, g2, l2, by rw [← a.lo]; exact q1, rfl⟩
        · exact a.new q o' (by omega) g1 l1
  · rw [b.keep k (Nat.lt_of_lt_of_le hk a.size) ?_, a.keep k hk hn]
    intro p o hg hl hlo he
    by_cases h3 : p.toNat < h.n.toNat
    · obtain ⟨o1, g1, l1⟩ := a.liv p o h3 hg hl
      rw [a.agree p h3] at he
      exact hn p o1 g1 l1 (by rw [← a.lo]; exact hlo) he
    · rcases a.new p o (by omega) hg hl with h4 | ⟨q, o', g1, l1, q1, e1⟩
      · omega
      · exact hn q o' g1 l1 q1 (by rw [e1]; exact he)
  · rw [b.old p (by rw [a.lo]; exact hp) (Nat.lt_of_lt_of_le hq a.len), a.old p hp hq]
  · obtain ⟨o1, g1, l1⟩ := b.liv p o (Nat.lt_of_lt_of_le hp a.len) hg hl
    exact a.liv p o1 hp g1 l1
theorem Sat.drew {ρ : Rho} {h : H} {w : World} (s : Sat E ρ h w) : Sat E ρ h w.drew := ⟨s.obj, s.inj, s.bd⟩
theorem Sat.refl_drew {ρ : Rho} {h : H} {w : World} (s : Sat E ρ h w) : Ext ρ h w ρ h w.drew :=
  ⟨Nat.le_refl _, rfl, fun _ _ => rfl, fun p o h1 h2 => by have := (s.bd p o h2).1; omega, rfl, rfl, rfl, Nat.le_refl _, fun _ _ _ => rfl, fun _ _ _ => rfl, fun p o _ h1 h2 => ⟨o, h1, h2⟩⟩

theorem heap_alloc (w : World) (o : Obj) : (w.alloc o).heap = w.heap.push o := rfl
/-- a new thing -/
def ext1 (ρ : Rho) (n : P) (L : Pl) : Rho := fun i => if i.toNat = n.toNat then L else ρ i
theorem ext1_same (ρ : Rho) (n : P) (L : Pl) : ext1 ρ n L n = L := if_pos rfl
theorem ext1_old (ρ : Rho) {n i : P} (L : Pl) (h : i.toNat < n.toNat) : ext1 ρ n L i = ρ i := if_neg (by omega)
/-- the things with one more -/
def H.add (h : H) (o : O) : H := ⟨h.n.succ, h.lo, h.t.set h.n o⟩
/-- the things with one that is another one -/
def H.put (h : H) (p : P) (o : O) : H := ⟨h.n, h.lo, h.t.set p o⟩
theorem get_set {α : Type} (t : PT α) (p q : P) (a : α) : (t.set p a).get q = if q.toNat = p.toNat then some a else t.get q := by
  by_cases h : q.toNat = p.toNat
  · rw [if_pos h, P.toNat_inj h, PT.get_set_same]
  · rw [if_neg h, PT.get_set_other _ _ _ _ (fun e => h (by rw [e]))]
theorem hnew_eq {σ : Type} (h : H) (o : O) (k : P → H → σ) : hnew h o k = k h.n (h.add o) := by
  cases h; show setK _ _ _ _ = _; rw [setK_eq]; show succK _ _ = _; rw [succK_eq]; rfl
theorem hset_eq {σ : Type} (h : H) (i : P) (o : O) (k : H → σ) : hset h i o k = k (h.put i o) := by
  cases h; show setK _ _ _ _ = _; rw [setK_eq]; rfl
theorem hget_eq (h : H) (i : P) : hget h i = h.t.get i := by cases h; rfl
theorem hmay_iff (h : H) (i : P) (e : hmay h i = true) : h.lo.toNat ≤ i.toNat := by
  cases h with
  | mk n lo t =>
    have e : bc (isH lo) true (pLe lo i) = true := e
    rw [bc_eq] at e
    split at e
    · rename_i h1
      rw [isH_iff] at h1
      subst h1
      exact i.toNat_pos
    · simpa [pLe] using e
theorem sat_add {ρ : Rho} {h : H} {w w' : World} (s : Sat E ρ h w) (o : O) (hb : o.bd h.n.toNat) (L : Pl) (hL : o.live = true → w.heap.size ≤ L.b) (hi : o.Is E ρ L w'.heap)
    (h2 : ∀ b, b < w.heap.size → w'.heap[b]? = w.heap[b]?) (h3 : w.heap.size ≤ w'.heap.size) (ho : w'.os = w.os) (ht : w'.tape = w.tape) (hu : w'.output = w.output) :
    Sat E (ext1 ρ h.n L) (h.add o) w' ∧ Ext ρ h w (ext1 ρ h.n L) (h.add o) w' := by
  have ha : ∀ i : P, i.toNat < h.n.toNat → ext1 ρ h.n L i = ρ i := fun i hi => ext1_old ρ L hi
  have hg : ∀ p o', (h.add o).t.get p = some o' → (p = h.n ∧ o' = o) ∨ (p.toNat < h.n.toNat ∧ h.t.get p = some o') := by
    intro p o' hp
    simp only [H.add, get_set] at hp
    split at hp
    · rename_i e; simp at hp; exact .inl ⟨P.toNat_inj e, hp.symm⟩
    · exact .inr ⟨(s.bd p o' hp).1, hp⟩
  refine ⟨⟨fun p o' hp => ?_, fun p q o1 o2 hp hq l1 l2 he => ?_, fun p o' hp => ?_⟩, ⟨by simp [H.add], rfl, ha, fun p o' h1 hp hl => ?_, ho, ht, hu, h3, fun b hb _ => h2 b hb, fun p h1 h4 => ?_, fun p o' h1 hp hl => ?_⟩⟩
  · rcases hg p o' hp with ⟨rfl, rfl⟩ | ⟨h1, hp⟩
    · rw [ext1_same]; exact O.Is_agree E ha hb hi
    · rw [ha p h1]
      exact O.Is_agree E ha (s.bd p o' hp).2 (O.Is_heap E (fun hl => h2 _ (s.lt E hp hl)) (s.obj p o' hp))
  · rcases hg p o1 hp with ⟨e1, e2⟩ | ⟨h1, hp'⟩ <;> rcases hg q o2 hq with ⟨e3, e4⟩ | ⟨h4, hq'⟩
    · rw [e1, e3]
    · rw [e1, ext1_same, ha q h4] at he
      have := s.lt E hq' l2; have := hL (by rw [← e2]; exact l1); omega
    · rw [e3, ext1_same, ha p h1] at he
      have := s.lt E hp' l1; have := hL (by rw [← e4]; exact l2); omega
    · rw [ha p h1, ha q h4] at he
      exact s.inj p q o1 o2 hp' hq' l1 l2 he
  · simp only [H.add, toNat_succ]
    rcases hg p o' hp with ⟨rfl, rfl⟩ | ⟨h1, hp⟩
    · exact ⟨by omega, O.bd_mono (by omega) _ hb⟩
    · exact ⟨by omega, O.bd_mono (by omega) _ (s.bd p o' hp).2⟩
  · rcases hg p o' hp with ⟨rfl, rfl⟩ | ⟨h4, _⟩
    · rw [ext1_same]; exact .inl (hL hl)
    · omega
  · simp only [H.add, get_set]
    rw [if_neg (by omega)]
  · rcases hg p o' hp with ⟨rfl, rfl⟩ | ⟨_, hp⟩
    · omega
    · exact ⟨o', hp, hl⟩
/-- a thing that is another one from now on -/
theorem sat_put {ρ : Rho} {h : H} {w w' : World} (s : Sat E ρ h w) {p : P} {o0 : O} (hp : h.t.get p = some o0) (hl0 : o0.live = true) (hlo : h.lo.toNat ≤ p.toNat) (o : O) (hb : o.bd h.n.toNat)
    (h1 : o.Is E ρ (ρ p) w'.heap) (h2 : ∀ b, b ≠ (ρ p).b → w'.heap[b]? = w.heap[b]?) (h3 : w'.heap.size = w.heap.size) (ho : w'.os = w.os) (ht : w'.tape = w.tape) (hu : w'.output = w.output) :
    Sat E ρ (h.put p o) w' ∧ Ext ρ h w ρ (h.put p o) w' := by
  have hpn := (s.bd p o0 hp).1
  have hg : ∀ q o', (h.put p o).t.get q = some o' → (q = p ∧ o' = o) ∨ (q ≠ p ∧ h.t.get q = some o') := by
    intro q o' hq
    simp only [H.put, get_set] at hq
    split at hq
    · rename_i e; simp at hq; exact .inl ⟨P.toNat_inj e, hq.symm⟩
    · rename_i e; exact .inr ⟨fun e2 => e (by rw [e2]), hq⟩
  refine ⟨⟨fun q o' hq => ?_, fun a b o1 o2 ha hb' l1 l2 he => ?_, fun q o' hq => ?_⟩, ⟨Nat.le_refl _, rfl, fun _ _ => rfl, fun q o' h4 hq hl => ?_, ho, ht, hu, by omega, fun b hb hn => h2 b (fun e => hn p o0 hp hl0 hlo e.symm), fun q h4 h5 => ?_, fun q o' h4 hq hl => ?_⟩⟩
  · rcases hg q o' hq with ⟨rfl, rfl⟩ | ⟨hne, hq⟩
    · exact h1
    · exact O.Is_heap E (fun hl => h2 _ (fun e => hne (s.inj q p o' o0 hq hp hl hl0 e))) (s.obj q o' hq)
  · have key : ∀ a o1, (h.put p o).t.get a = some o1 → o1.live = true → ∃ o1', h.t.get a = some o1' ∧ o1'.live = true := by
      intro a o1 ha l1
      rcases hg a o1 ha with ⟨rfl, rfl⟩ | ⟨_, ha⟩
      · exact ⟨o0, hp, hl0⟩
      · exact ⟨o1, ha, l1⟩
    obtain ⟨x, hx, lx⟩ := key a o1 ha l1
    obtain ⟨y, hy, ly⟩ := key b o2 hb' l2
    exact s.inj a b x y hx hy lx ly he
  · rcases hg q o' hq with ⟨rfl, rfl⟩ | ⟨_, hq⟩
    · exact ⟨hpn, hb⟩
    · exact s.bd q o' hq
  · rcases hg q o' hq with ⟨rfl, rfl⟩ | ⟨_, hq⟩
    · omega
    · have := (s.bd q o' hq).1; omega
  · simp only [H.put, get_set]
    rw [if_neg (by omega)]
  · rcases hg q o' hq with ⟨rfl, rfl⟩ | ⟨_, hq⟩
    · exact ⟨o0, hp, hl0⟩
    · exact ⟨o', hq, hl⟩
/-- a thing that is not looked at any more -/
theorem sat_dead {ρ : Rho} {h : H} {w : World} (s : Sat E ρ h w) (p : P) (o0 : O) (hp : h.t.get p = some o0) (hlo : h.lo.toNat ≤ p.toNat) : Sat E ρ (h.put p .dead) w ∧ Ext ρ h w ρ (h.put p .dead) w := by
  have hg : ∀ q o', (h.put p .dead).t.get q = some o' → (q = p ∧ o' = .dead) ∨ h.t.get q = some o' := by
    intro q o' hq
    simp only [H.put, get_set] at hq
    split at hq
    · rename_i e; simp at hq; exact .inl ⟨P.toNat_inj e, hq.symm⟩
    · exact .inr hq
  have hpn := (s.bd p o0 hp).1
  refine ⟨⟨fun q o' hq => ?_, fun a b o1 o2 ha hb' l1 l2 he => ?_, fun q o' hq => ?_⟩, ⟨Nat.le_refl _, rfl, fun _ _ => rfl, fun q o' h4 hq hl => ?_, rfl, rfl, rfl, Nat.le_refl _, fun _ _ _ => rfl, fun q h4 h5 => ?_, fun q o' h4 hq hl => ?_⟩⟩
  · rcases hg q o' hq with ⟨rfl, rfl⟩ | hq
    · trivial
    · exact s.obj q o' hq
  · rcases hg a o1 ha with ⟨rfl, rfl⟩ | ha
    · simp [O.live] at l1
    rcases hg b o2 hb' with ⟨rfl, rfl⟩ | hb'
    · simp [O.live] at l2
    exact s.inj a b o1 o2 ha hb' l1 l2 he
  · rcases hg q o' hq with ⟨rfl, rfl⟩ | hq
    · exact ⟨hpn, trivial⟩
    · exact s.bd q o' hq
  · rcases hg q o' hq with ⟨rfl, rfl⟩ | hq
    · simp [O.live] at hl
    · have := (s.bd q o' hq).1; omega
  · simp only [H.put, get_set]
    rw [if_neg (by omega)]
  · rcases hg q o' hq with ⟨rfl, rfl⟩ | hq
    · simp [O.live] at hl
    · exact ⟨o', hq, hl⟩
/-- a thing that goes on under another number, in its own block -/
theorem sat_move {ρ : Rho} {h : H} {w w' : World} (s : Sat E ρ h w) {p : P} {o0 : O} (hp : h.t.get p = some o0) (hl0 : o0.live = true) (hlo : h.lo.toNat ≤ p.toNat) (o : O) (hlo' : o.live = true) (hb : o.bd h.n.toNat) (L : Pl) (hL : L.b = (ρ p).b)
    (h1 : o.Is E ρ L w'.heap) (h2 : ∀ b, b ≠ (ρ p).b → w'.heap[b]? = w.heap[b]?) (h3 : w'.heap.size = w.heap.size) (ho : w'.os = w.os) (ht : w'.tape = w.tape) (hu : w'.output = w.output) :
    Sat E (ext1 ρ h.n L) ((h.put p .dead).add o) w' ∧ Ext ρ h w (ext1 ρ h.n L) ((h.put p .dead).add o) w' := by
  have hpn := (s.bd p o0 hp).1
  have ha : ∀ i : P, i.toNat < h.n.toNat → ext1 ρ h.n L i = ρ i := fun i hi => ext1_old ρ L hi
  have hg : ∀ q o', ((h.put p .dead).add o).t.get q = some o' → (q = h.n ∧ o' = o) ∨ (q.toNat < h.n.toNat ∧ ((q = p ∧ o' = .dead) ∨ (q ≠ p ∧ h.t.get q = some o'))) := by
    intro q o' hq
    simp only [H.add, H.put, get_set] at hq
    split at hq
    · rename_i e; simp at hq; exact .inl ⟨P.toNat_inj e, hq.symm⟩
    · right
      split at hq
      · rename_i e; simp at hq
        have e2 := P.toNat_inj e
        exact ⟨by rw [e2]; exact hpn, .inl ⟨e2, hq.symm⟩⟩
      · rename_i e; exact ⟨(s.bd q o' hq).1, .inr ⟨fun e2 => e (by rw [e2]), hq⟩⟩
  have hn' : ((h.put p .dead).add o).n = h.n.succ := rfl
  refine ⟨⟨fun q o' hq => ?_, fun a b o1 o2 ha' hb' l1 l2 he => ?_, fun q o' hq => ?_⟩, ⟨by rw [hn']; simp, rfl, ha, fun q o' h4 hq hl => ?_, ho, ht, hu, by omega, fun b hb hn => h2 b (fun e => hn p o0 hp hl0 hlo e.symm), fun q h4 h5 => ?_, fun q o' h4 hq hl => ?_⟩⟩
  · rcases hg q o' hq with ⟨rfl, rfl⟩ | ⟨hq1, ⟨rfl, rfl⟩ | ⟨hne, hq⟩⟩
    · rw [ext1_same]; exact O.Is_agree E ha hb h1
    · trivial
    · rw [ha q hq1]
      exact O.Is_agree E ha (s.bd q o' hq).2 (O.Is_heap E (fun hl => h2 _ (fun e => hne (s.inj q p o' o0 hq hp hl hl0 e))) (s.obj q o' hq))
  · rcases hg a o1 ha' with ⟨e1, e2⟩ | ⟨ha1, ⟨e1, e2⟩ | ⟨hne, ha2⟩⟩
    · rcases hg b o2 hb' with ⟨e3, e4⟩ | ⟨hb1, ⟨e3, e4⟩ | ⟨hne, hb2⟩⟩
      · rw [e1, e3]
      · rw [e4] at l2; simp [O.live] at l2
      · rw [e1, ext1_same, ha b hb1, hL] at he
        exact absurd (s.inj b p o2 o0 hb2 hp l2 hl0 he.symm) hne
    · rw [e2] at l1; simp [O.live] at l1
    · rcases hg b o2 hb' with ⟨e3, e4⟩ | ⟨hb1, ⟨e3, e4⟩ | ⟨hne2, hb2⟩⟩
      · rw [e3, ext1_same, ha a ha1, hL] at he
        exact absurd (s.inj a p o1 o0 ha2 hp l1 hl0 he) hne
      · rw [e4] at l2; simp [O.live] at l2
      · rw [ha a ha1, ha b hb1] at he
        exact s.inj a b o1 o2 ha2 hb2 l1 l2 he
  · rw [hn', toNat_succ]
    rcases hg q o' hq with ⟨rfl, rfl⟩ | ⟨hq1, ⟨rfl, rfl⟩ | ⟨hne, hq⟩⟩
    · exact ⟨by omega, O.bd_mono (by omega) _ hb⟩
    · exact ⟨by omega, trivial⟩
    · exact ⟨by omega, O.bd_mono (by omega) _ (s.bd q o' hq).2⟩
  · rcases hg q o' hq with ⟨rfl, rfl⟩ | ⟨hq1, _⟩
    · rw [ext1_same]; exact .inr ⟨p, o0, hp, hl0, hlo, hL.symm⟩
    · omega
  · simp only [H.add, H.put, get_set]
    rw [if_neg (by omega), if_neg (by omega)]
  · rcases hg q o' hq with ⟨rfl, rfl⟩ | ⟨_, ⟨rfl, rfl⟩ | ⟨_, hq⟩⟩
    · omega
    · simp [O.live] at hl
    · exact ⟨o', hq, hl⟩
end Go.Ev
end
