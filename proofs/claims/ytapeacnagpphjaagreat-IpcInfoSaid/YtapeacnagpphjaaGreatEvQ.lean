/-
  A region that draws its order: quiet operations in any order, then a chain of others behind all of them.
-/
import Derived.Deep.Quiet
import Derived.StillTail
set_option linter.unusedSimpArgs false
set_option linter.unusedVariables false
namespace Go.EvQ
open Go
section
variable {P : Program} {ops : Array Oper} {md : Region.Mode} {C : World → Prop}

/-- f operations of the first n come up, in whatever order, each quiet; then L -/
def headQ (P : Program) (md : Region.Mode) (ops : Array Oper) (C : World → Prop) (n : Nat) (L : Array Bool → Act → Prop) : Nat → Array Bool → Act → Prop
  | 0, listed, a => L listed a
  | f + 1, listed, a => Region.ready md ops listed ≠ [] ∧ ∀ i ∈ Region.ready md ops listed, i < n ∧ qOp P ops C i (headQ P md ops C n L f (listed.setIfInBounds i true)) a

theorem headQ_any {n g : Nat} {L : Array Bool → Act → Prop} {Q' : Exit → Act → World → Prop} (hL : ∀ listed a w, C w → L listed a → wpAny P md ops Q' g listed a w) :
    ∀ (f : Nat) (listed : Array Bool) (a : Act) (w : World), C w → headQ P md ops C n L f listed a → wpAny P md ops Q' (f + g) listed a w := by
  intro f
  induction f with
  | zero => intro listed a w hw h; rw [Nat.zero_add]; exact hL _ _ _ hw h
  | succ f ih =>
    intro listed a w hw h
    have e : f + 1 + g = (f + g) + 1 := by omega
    rw [e]
    refine ⟨fun h0 => absurd h0 h.1, fun i hi => ?_⟩
    exact wpOp_of_qOp hw (fun a' w' hw' h' => ih _ a' w' hw' h') (h.2 i hi).2

/-- the order of what comes behind the head -/
def seqP (md : Region.Mode) (ops : Array Oper) : List Nat → Array Bool → Bool
  | [], listed => (Region.ready md ops listed).isEmpty
  | k :: r, listed => decide (Region.ready md ops listed = [k]) && seqP md ops r (listed.setIfInBounds k true)
def lexHeadP (md : Region.Mode) (ops : Array Oper) (tl : List Nat) : Nat → Nat → Array Bool → Bool
  | 0, _, listed => seqP md ops tl listed
  | f + 1, k, listed => (Region.ready md ops listed).contains k && Region.free md ops listed k && lexHeadP md ops tl f (k + 1) (listed.setIfInBounds k true)
/-- each one behind the head waits for another one behind the head, but the first -/
def tailB (md : Region.Mode) (ops : Array Oper) (n : Nat) : Bool :=
  (List.range ops.size).all fun t => decide (t ≤ n) || (List.range ops.size).any fun p => decide (n ≤ p) && Region.waitsFor md ops t p
def lexTailP (md : Region.Mode) (ops : Array Oper) (n : Nat) (tl : List Nat) : Bool :=
  Region.noSelect ops && decide (n < ops.size) && Region.sinkB md ops n && tailB md ops n && decide (n + tl.length = ops.size) && tl.all (fun i => decide (n ≤ i ∧ i < ops.size)) && lexHeadP md ops tl n 0 (Array.replicate ops.size false)
def pick (ops : Array Oper) (tl : List Nat) : List Oper := tl.filterMap fun i => ops[i]?
theorem wpAny_of_perm {Q' : Exit → Act → World → Prop} : ∀ (tl : List Nat) (listed : Array Bool) (a : Act) (w : World), (∀ i ∈ tl, i < ops.size) →
    seqP md ops tl listed = true → wpList P ops Q' (pick ops tl) a w → wpAny P md ops Q' tl.length listed a w
  | [], _, _, _, _, hB, h => ⟨by simpa [seqP] using hB, h⟩
  | k :: tl, listed, a, w, hl, hB, h => by
    have hk : k < ops.size := hl k List.mem_cons_self
    have h0 : ops[k]? = some ops[k] := by simp [hk]
    simp only [seqP, Bool.and_eq_true, decide_eq_true_eq] at hB
    refine ⟨fun h1 => (by rw [hB.1] at h1; cases h1), fun i hi => ?_⟩
    rw [hB.1] at hi
    have hik : i = k := by simpa using hi
    subst hik
    have hp : pick ops (i :: tl) = ops[i] :: pick ops tl := by simp [pick, h0]
    rw [hp] at h
    have hw : wpOp P ops Q' i (wpList P ops Q' (pick ops tl)) a w := by unfold wpOp; simp only [h0]; exact h
    exact wpOp_mono (fun a' w' h' => wpAny_of_perm tl _ a' w' (fun j hj => hl j (List.mem_cons_of_mem _ hj)) hB.2 h') hw
theorem seqP_ready {n : Nat} {tl : List Nat} {listed : Array Bool} (hn : ∀ i ∈ tl, n ≤ i) (h : seqP md ops tl listed = true) : ∀ j ∈ Region.ready md ops listed, n ≤ j := by
  cases tl with
  | nil => intro j hj; simp only [seqP, List.isEmpty_iff] at h; rw [h] at hj; cases hj
  | cons k tl =>
    intro j hj
    simp only [seqP, Bool.and_eq_true, decide_eq_true_eq] at h
    rw [h.1] at hj
    have : j = k := by simpa using hj
    subst this
    exact hn j List.mem_cons_self
theorem tailB_waits {n : Nat} {listed : Array Bool} (hs : Region.sinkB md ops n = true) (hc : tailB md ops n = true) (hn : n < ops.size) (inv : HeadInv md ops n listed) :
    ∀ (d i : Nat), n - i = d → i < n → listed.getD i true = false → ∀ t, n ≤ t → t ∉ Region.ready md ops listed := by
  intro d
  induction d using Nat.strongRecOn with
  | _ d ih =>
    intro i hd hi hun t ht hr
    obtain ⟨_, ot, hot, hall⟩ := mem_ready.1 hr
    have htlt : t < ops.size := (Array.getElem?_eq_some_iff.1 hot).1
    by_cases htn : t = n
    · subst htn
      have h1 := List.all_eq_true.1 hs i (List.mem_range.2 hi)
      obtain ⟨j, hj, hj2⟩ := List.any_eq_true.1 h1
      simp only [Bool.and_eq_true, decide_eq_true_eq] at hj2
      obtain ⟨oj, hoj, e, he, hb, hon⟩ := Region.waitsFor_spec hj2.2
      have hjle : j ≤ t := by have := List.mem_range.1 hj; omega
      by_cases hjt : j = t
      · subst hjt
        have : oj = ot := Option.some.inj (hoj.symm.trans hot)
        subst this
        have h2 := hall e he hb
        rw [hon, getD_both hun] at h2
        cases h2
      · cases hl : listed.getD j false with
        | true =>
          have h2 := inv.closed j oj hoj hl e he hb
          rw [hon, getD_both hun] at h2
          cases h2
        | false =>
          have hjs : j < listed.size := by rw [inv.size]; omega
          exact ih (t - j) (by omega) j rfl (by omega) (getD_in hjs hl) t (Nat.le_refl _) hr
    · have h1 := List.all_eq_true.1 hc t (List.mem_range.2 htlt)
      simp only [Bool.or_eq_true, decide_eq_true_eq] at h1
      rcases h1 with h1 | h1
      · omega
      · obtain ⟨p, hp, hp2⟩ := List.any_eq_true.1 h1
        simp only [Bool.and_eq_true, decide_eq_true_eq] at hp2
        obtain ⟨o', ho', e, he, hb, hon⟩ := Region.waitsFor_spec hp2.2
        have : o' = ot := Option.some.inj (ho'.symm.trans hot)
        subst this
        have h2 := hall e he hb
        rw [hon, getD_both (inv.tail p hp2.1 (List.mem_range.1 hp))] at h2
        cases h2

theorem headQ_take {n i : Nat} {oi : Oper} {v : Value} {L : Array Bool → Act → Prop} (hi : ops[i]? = some oi) (hsel : ∀ (j : Nat) (o : Oper) cs b, ops[j]? = some o → o.op ≠ .select cs b)
    (hbar : ∀ listed, HeadInv md ops n listed → ∀ i, i < n → listed.getD i true = false → ∀ t, n ≤ t → t ∉ Region.ready md ops listed) (hin : i < n) (hdone : ∀ listed a, L listed a → ∀ j ∈ Region.ready md ops listed, n ≤ j) :
    ∀ (f : Nat) (listed : Array Bool) (a : Act), HeadInv md ops n listed →
      (∀ j oj, ops[j]? = some oj → j ≠ i → listed.getD j true = false → (∀ e ∈ oj.after, Region.binds md e = true → e.on ≠ i) → oi.apart ops oj = true) →
      i ∈ Region.ready md ops listed → YieldsIn P ops C oi v a →
      headQ P md ops C n L f (listed.setIfInBounds i true) (a.put oi.dst v) → headQ P md ops C n L (f + 1) listed a := by
  intro f
  induction f with
  | zero =>
    intro listed a inv hfree hr hy hh
    have hun := (mem_ready.1 hr).1
    refine ⟨List.ne_nil_of_mem hr, fun j hj => ?_⟩
    have hlt : j < n := Nat.lt_of_not_le fun h => hbar listed inv i hin hun j h hj
    refine ⟨hlt, ?_⟩
    by_cases e : j = i
    · subst e; exact hy.qOp hi hh
    · exact absurd (hdone _ _ hh j (ready_mono hj e)) (by omega)
  | succ f ih =>
    intro listed a inv hfree hr hy hh
    have hun := (mem_ready.1 hr).1
    refine ⟨List.ne_nil_of_mem hr, fun j hj => ?_⟩
    have hlt : j < n := Nat.lt_of_not_le fun h => hbar listed inv i hin hun j h hj
    refine ⟨hlt, ?_⟩
    by_cases e : j = i
    · subst e; exact hy.qOp hi hh
    · have h1 := (hh.2 j (ready_mono hj e)).2
      obtain ⟨hjun, oj, hoj, hall⟩ := mem_ready.1 hj
      have hno : ∀ e ∈ oj.after, Region.binds md e = true → e.on ≠ i := by
        intro ed he hb heq
        have h2 := hall ed he hb
        rw [heq, getD_both hun] at h2
        simp at h2
      have h2 := qOp_put hoj (hfree j oj hoj e hjun hno) (fun cs b => hsel i oi cs b hi) (fun cs b => hsel j oj cs b hoj) hy h1
      refine qOp_mono (fun a' h3 => ?_) h2
      refine ih (listed.setIfInBounds j true) a' (inv.set hj hlt) ?_ (ready_mono hr (Ne.symm e)) h3.1 ?_
      · intro k ok hk hki hku hkn
        refine hfree k ok hk hki ?_ hkn
        by_cases ejk : j = k
        · rw [← ejk]; exact hjun
        · rwa [getD_set_ne true ejk] at hku
      · rw [Array.setIfInBounds_comm _ _ e]
        exact h3.2

theorem headQ_lex {n : Nat} {tl : List Nat} (htl : ∀ i ∈ tl, n ≤ i) {K : Act → Prop} (hsel : Region.noSelect ops = true) (hbar : ∀ listed, HeadInv md ops n listed → ∀ i, i < n → listed.getD i true = false → ∀ t, n ≤ t → t ∉ Region.ready md ops listed) :
    ∀ (l : List Oper) (k : Nat) (listed : Array Bool) (a : Act), (∀ j, j < l.length → l[j]? = ops[k + j]?) → k + l.length = n → HeadInv md ops n listed →
    lexHeadP md ops tl l.length k listed = true → wpQuiet P ops C K l a →
    headQ P md ops C n (fun listed' a' => seqP md ops tl listed' = true ∧ K a') l.length listed a := by
  intro l
  induction l with
  | nil =>
    intro k listed a _ hk _ hB h
    have e : k = n := by simpa using hk
    rw [e] at hB
    exact ⟨by simpa [lexHeadP] using hB, h⟩
  | cons o l ih =>
    intro k listed a hl hk inv hB h
    have h0 : ops[k]? = some o := by simpa using (hl 0 (by simp)).symm
    simp only [List.length_cons] at hB hk
    simp only [lexHeadP, Bool.and_eq_true] at hB
    obtain ⟨⟨hr, hf⟩, hB'⟩ := hB
    have hr' : k ∈ Region.ready md ops listed := by simpa using hr
    have hq : qOp P ops C k (wpQuiet P ops C K l) a := by
      unfold qOp; simp only [h0]; exact h
    obtain ⟨v, hy, hK⟩ := yieldsIn_of_qOp h0 hq
    refine headQ_take h0 (Region.noSelect_spec hsel) hbar (by omega) (fun listed' a' hL => seqP_ready htl hL.1) l.length listed a inv (Region.free_spec h0 hf) hr' hy ?_
    exact ih (k + 1) _ _ (fun j hj => by have h1 := hl (j + 1) (by simp; omega); simpa [Nat.add_assoc, Nat.add_comm 1 j] using h1) (by omega) (inv.set hr' (by omega)) hB' hK


theorem wp_region_head {id : Nat} {Q : Exit → Act → World → Prop} {a : Act} {w : World} (n : Nat) (tl : List Nat) (hm : P.follows .mixedOrders = true) (hB : lexTailP .any ops n tl = true) (hC : C { w with drawn := w.drawn + 1 })
    (h : wpQuiet P ops C (fun a' => ∀ w', C w' → wpList P ops Q (pick ops tl) a' w') (ops.toList.take n) a) : (Code.region id ops true).wp P Q a w := by
  simp only [lexTailP, Bool.and_eq_true, decide_eq_true_eq] at hB
  obtain ⟨⟨⟨⟨⟨⟨hsel, hn⟩, hs⟩, hc⟩, hsz⟩, hall⟩, hlex⟩ := hB
  have htl : ∀ i ∈ tl, n ≤ i ∧ i < ops.size := fun i hi => by simpa using List.all_eq_true.1 hall i hi
  have hlen : (ops.toList.take n).length = n := by simp; omega
  have inv : HeadInv .any ops n (Array.replicate ops.size false) :=
    ⟨by simp, fun j oj _ hl => by rw [getD_replicate_false] at hl; simp at hl, fun t _ ht => getD_in (by simpa using ht) (getD_replicate_false _ _)⟩
  have h1 := headQ_lex (P := P) (C := C) (md := .any) (tl := tl) (fun i hi => (htl i hi).1) hsel (fun listed inv i hi hun t ht => tailB_waits hs hc hn inv _ i rfl hi hun t ht) (ops.toList.take n) 0 _ a (fun j hj => by
    have hj : j < n := by omega
    simp [List.getElem?_take, hj]) (by simpa using hlen) inv (by rw [hlen]; exact hlex) h
  rw [hlen] at h1
  refine wp_region_any hm ?_
  rw [show wpAny P .any ops Q ops.size = wpAny P .any ops Q (n + tl.length) from by rw [hsz]]
  refine headQ_any (C := C) (fun listed a' w' hw' hL => ?_) n _ a _ hC h1
  exact wpAny_of_perm tl listed a' w' (fun i hi => (htl i hi).2) hL.1 (hL.2 w' hw')
/-- a head, one operation, and quiet ones again -/
def lexHeadF (md : Region.Mode) (ops : Array Oper) (F : Array Bool → Bool) : Nat → Nat → Array Bool → Bool
  | 0, _, listed => F listed
  | f + 1, k, listed => (Region.ready md ops listed).contains k && Region.free md ops listed k && lexHeadF md ops F f (k + 1) (listed.setIfInBounds k true)
def lexTwo (md : Region.Mode) (ops : Array Oper) (n : Nat) : Bool :=
  Region.noSelect ops && decide (n < ops.size) && Region.sinkB md ops n && tailB md ops n &&
    lexHeadF md ops (fun listed => decide (Region.ready md ops listed = [n]) && lexHeadP md ops [] (ops.size - (n + 1)) (n + 1) (listed.setIfInBounds n true)) n 0 (Array.replicate ops.size false)
theorem headQ_lexF {n : Nat} {F : Array Bool → Bool} (hF : ∀ listed, F listed = true → ∀ j ∈ Region.ready md ops listed, n ≤ j) {K : Act → Prop} (hsel : Region.noSelect ops = true) (hbar : ∀ listed, HeadInv md ops n listed → ∀ i, i < n → listed.getD i true = false → ∀ t, n ≤ t → t ∉ Region.ready md ops listed) :
    ∀ (l : List Oper) (k : Nat) (listed : Array Bool) (a : Act), (∀ j, j < l.length → l[j]? = ops[k + j]?) → k + l.length = n → HeadInv md ops n listed →
    lexHeadF md ops F l.length k listed = true → wpQuiet P ops C K l a →
    headQ P md ops C n (fun listed' a' => (F listed' = true ∧ HeadInv md ops n listed') ∧ K a') l.length listed a := by
  intro l
  induction l with
  | nil =>
    intro k listed a _ hk inv hB h
    exact ⟨⟨by simpa [lexHeadF] using hB, inv⟩, h⟩
  | cons o l ih =>
    intro k listed a hl hk inv hB h
    have h0 : ops[k]? = some o := by simpa using (hl 0 (by simp)).symm
    simp only [List.length_cons] at hB hk
    simp only [lexHeadF, Bool.and_eq_true] at hB
    obtain ⟨⟨hr, hf⟩, hB'⟩ := hB
    have hr' : k ∈ Region.ready md ops listed := by simpa using hr
    have hq : qOp P ops C k (wpQuiet P ops C K l) a := by
      unfold qOp; simp only [h0]; exact h
    obtain ⟨v, hy, hK⟩ := yieldsIn_of_qOp h0 hq
    refine headQ_take h0 (Region.noSelect_spec hsel) hbar (by omega) (fun listed' a' hL => hF _ hL.1.1) l.length listed a inv (Region.free_spec h0 hf) hr' hy ?_
    exact ih (k + 1) _ _ (fun j hj => by have h1 := hl (j + 1) (by simp; omega); simpa [Nat.add_assoc, Nat.add_comm 1 j] using h1) (by omega) (inv.set hr' (by omega)) hB' hK
theorem wp_region_two {id : Nat} {Q : Exit → Act → World → Prop} {a : Act} {w : World} (n : Nat) (hm : P.follows .mixedOrders = true) (hB : lexTwo .any ops n = true) (hC : C { w with drawn := w.drawn + 1 })
    (h : wpQuiet P ops C (fun a' => ∀ w', C w' → wpOp P ops Q n (fun a2 w2 => ∃ C2 : World → Prop, C2 w2 ∧ wpQuiet P ops C2 (fun a3 => ∀ w3, C2 w3 → Q .normal a3 w3) (ops.toList.drop (n + 1)) a2) a' w') (ops.toList.take n) a) :
    (Code.region id ops true).wp P Q a w := by
  simp only [lexTwo, Bool.and_eq_true, decide_eq_true_eq] at hB
  obtain ⟨⟨⟨⟨hsel, hn⟩, hs⟩, hc⟩, hlex⟩ := hB
  have hlen : (ops.toList.take n).length = n := by simp; omega
  have inv : HeadInv .any ops n (Array.replicate ops.size false) :=
    ⟨by simp, fun j oj _ hl => by rw [getD_replicate_false] at hl; simp at hl, fun t _ ht => getD_in (by simpa using ht) (getD_replicate_false _ _)⟩
  have h1 := headQ_lexF (P := P) (C := C) (md := .any) (n := n) (F := fun listed => decide (Region.ready .any ops listed = [n]) && lexHeadP .any ops [] (ops.size - (n + 1)) (n + 1) (listed.setIfInBounds n true))
    (fun listed hF j hj => by
      simp only [Bool.and_eq_true, decide_eq_true_eq] at hF
      rw [hF.1] at hj
      have : j = n := by simpa using hj
      omega)
    hsel (fun listed inv i hi hun t ht => tailB_waits hs hc hn inv _ i rfl hi hun t ht) (ops.toList.take n) 0 _ a (fun j hj => by
    have hj : j < n := by omega
    simp [List.getElem?_take, hj]) (by simpa using hlen) inv (by rw [hlen]; exact hlex) h
  rw [hlen] at h1
  refine wp_region_any hm ?_
  have e : ops.size = n + ((ops.size - (n + 1)) + 1) := by omega
  rw [show wpAny P .any ops Q ops.size = wpAny P .any ops Q (n + ((ops.size - (n + 1)) + 1)) from by rw [← e]]
  refine headQ_any (C := C) (fun listed a' w' hw' hL => ?_) n _ a _ hC h1
  obtain ⟨⟨hF, inv'⟩, hK⟩ := hL
  simp only [Bool.and_eq_true, decide_eq_true_eq] at hF
  refine ⟨fun h0 => (by rw [hF.1] at h0; cases h0), fun i hi => ?_⟩
  rw [hF.1] at hi
  have hin : i = n := by simpa using hi
  subst hin
  refine wpOp_mono (fun a2 w2 hh => ?_) (hK w' hw')
  obtain ⟨C2, hC2, hq2⟩ := hh
  have hl2 : (ops.toList.drop (i + 1)).length = ops.size - (i + 1) := by simp
  have hri : i ∈ Region.ready .any ops listed := by rw [hF.1]; simp
  have inv2 : HeadInv .any ops ops.size (listed.setIfInBounds i true) := by
    obtain ⟨_, oi, hoi, hall⟩ := mem_ready.1 hri
    refine ⟨by simp [inv'.size], fun j oj hj hl e he hb => ?_, fun t ht ht' => absurd ht' (by omega)⟩
    by_cases hij : i = j
    · subst hij
      have : oj = oi := Option.some.inj (hj.symm.trans hoi)
      subst this
      exact getD_set_true (hall e he hb)
    · rw [getD_set_ne false hij] at hl
      exact getD_set_true (inv'.closed j oj hj hl e he hb)
  have bar : ∀ listed, HeadInv .any ops ops.size listed → ∀ i, i < ops.size → listed.getD i true = false → ∀ t, ops.size ≤ t → t ∉ Region.ready .any ops listed := by
    intro listed _ i _ _ t ht hr
    obtain ⟨_, ot, hot, _⟩ := mem_ready.1 hr
    have := (Array.getElem?_eq_some_iff.1 hot).1
    omega
  have h2 := headQ_lex (P := P) (C := C2) (md := .any) (n := ops.size) (tl := []) (fun i hi => by simp at hi) hsel bar (ops.toList.drop (i + 1)) (i + 1) _ a2 (fun j hj => by simp [List.getElem?_drop]) (by rw [hl2]; omega) inv2 (by rw [hl2]; exact hF.2) hq2
  rw [hl2] at h2
  have h3 := headQ_any (C := C2) (g := 0) (Q' := Q) (fun listed a' w' hw' hL => ⟨by simpa [seqP] using hL.1, hL.2 w' hw'⟩) _ _ a2 w2 hC2 h2
  exact h3
end
end Go.EvQ
