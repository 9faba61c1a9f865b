/-
  Ranges over a function: the rounds, the loop, the functions.
-/
import Derived.Test.YtapeacnagpphjaaGreatEvP
set_option linter.unusedSimpArgs false
set_option linter.unusedVariables false
noncomputable section
namespace Go.Ev
open Go
variable {E : Env} {P : Program} {N : Nat}
/-! ### blocks that no thing lies in -/
def Unb (b : Nat) (ρ : Rho) (h : H) : Prop := ∀ p o, h.t.get p = some o → o.live = true → (ρ p).b ≠ b
theorem keep_block {b : Nat} {ρ ρ' : Rho} {h h' : H} {w w' : World} (x : Ext ρ h w ρ' h' w') (hu : Unb b ρ h) (hb : b < w.heap.size) : Unb b ρ' h' ∧ w'.heap[b]? = w.heap[b]? := by
  refine ⟨fun p o hp hl => ?_, x.keep b hb fun p o hp hl _ => hu p o hp hl⟩
  by_cases hn : p.toNat < h.n.toNat
  · obtain ⟨o0, h0, l0⟩ := x.liv p o hn hp hl
    rw [x.agree p hn]; exact hu p o0 h0 l0
  · rcases x.new p o (by omega) hp hl with h1 | ⟨q, o', h1, h2, _, h3⟩
    · omega
    · rw [← h3]; exact hu q o' h1 h2
theorem put_sat {b : Nat} {X : Obj} {ρ : Rho} {h : H} {w : World} (s : Sat E ρ h w) (hu : Unb b ρ h) : Sat E ρ h (w.putObj b X) :=
  ⟨fun p o hp => O.Is_heap E (fun hl => World.putObj_heap_other (hu p o hp hl)) (s.obj p o hp), s.inj, s.bd⟩
theorem ext_mask {b : Nat} {X : Obj} {ρ ρ' : Rho} {h h' : H} {w w' : World} (x : Ext ρ h w ρ' h' w') (hb : b < w.heap.size) : Ext ρ h (w.putObj b X) ρ' h' (w'.putObj b X) := by
  refine ⟨x.len, x.lo, x.agree, fun p o h1 h2 h3 => by rw [World.putObj_size]; exact x.new p o h1 h2 h3, x.os, x.tape, x.output, by rw [World.putObj_size, World.putObj_size]; exact x.size, fun c hc hno => ?_, x.old, x.liv⟩
  rw [World.putObj_size] at hc
  by_cases e : c = b
  · subst e
    rw [World.putObj_heap_same hc, World.putObj_heap_same (Nat.lt_of_lt_of_le hc x.size)]
  · rw [World.putObj_heap_other e, World.putObj_heap_other e]
    exact x.keep c hc hno
theorem putObj_put {b : Nat} {X Y : Obj} {w : World} : (w.putObj b X).putObj b Y = w.putObj b Y := by
  unfold World.putObj
  congr 1
  apply Array.ext_getElem?
  intro i
  simp only [Array.getElem?_setIfInBounds]
  by_cases e : b = i
  · simp [e]
  · simp [e]
theorem sat_alloc {ρ : Rho} {h : H} {w : World} (s : Sat E ρ h w) (o : Obj) : Sat E ρ h (w.alloc o) :=
  ⟨fun p x hp => O.Is_heap E (fun hl => by
    have hlt : (ρ p).b < w.heap.size := O.Is_lt E (s.obj p x hp) hl
    show (w.heap.push o)[(ρ p).b]? = w.heap[(ρ p).b]?
    rw [Array.getElem?_push, if_neg (by omega)]) (s.obj p x hp), s.inj, s.bd⟩
theorem unb_new {ρ : Rho} {h : H} {w : World} (s : Sat E ρ h w) {b : Nat} (hb : w.heap.size ≤ b) : Unb b ρ h := fun p o hp hl => by
  have : (ρ p).b < w.heap.size := O.Is_lt E (s.obj p o hp) hl
  omega
/-! ### the modes -/
def plainMd : Md := ⟨fun w => w, fun _ ds _ _ _ => ds = []⟩
theorem plainMd_ok : MdOk E plainMd := ⟨fun _ _ x hj => ⟨hj, x⟩⟩
def markOf (b : Nat) : Deferred := { target := .collected b, args := #[] }
def callMd (B : Nat) : Md := ⟨fun w => w, fun pd ds ρ h w => (B ≤ w.heap.size ∧ pd = none ∧ ds = []) ∨ (pd = some .normal ∧ ∃ b, B ≤ b ∧ ds = [markOf b] ∧ w.heap[b]? = some (.deferred (some [])) ∧ Unb b ρ h)⟩
theorem callMd_ok (B : Nat) : MdOk E (callMd B) := ⟨fun s s' x hj => ⟨by
  rcases hj with ⟨h1, h2, h3⟩ | ⟨h1, b, h2, h3, h4, h5⟩
  · exact .inl ⟨Nat.le_trans h1 x.size, h2, h3⟩
  · obtain ⟨h6, h7⟩ := keep_block x h5 (Array.getElem?_eq_some_iff.1 h4).1
    exact .inr ⟨h1, b, h2, h3, h7.trans h4, h6⟩, x⟩⟩
/-- a loop: what its text says; where it lies -/
structure LS where
  fr : Fr
  ps : Array Tmp
  as : Code
  bd : Code
  N : Nat
structure LI where
  b : Nat
  D : Nat
  T : Array Value
  fn : FuncId
def pdCode : AE → Code
  | .normal => .skip
  | .ret => .ret
  | .exit i => .exit i
def recOf (s : LS) (i : LI) (st : LoopState) (pe : Option Code) : Loop := { state := st, pending := pe, fn := i.fn, tmps := i.T, params := s.ps, assign := s.as, body := s.bd, defers := i.D }
def recPd (s : LS) (i : LI) : Pd → Loop
  | none => recOf s i .ready none
  | some e => recOf s i .done (some (pdCode e))
def iterMd (E : Env) (s : LS) (i : LI) : Md := ⟨fun w => w.putObj i.b (.deferred none), fun pd ds ρ h w => ds = [] ∧ w.heap[i.b]? = some (.loop (recPd s i pd)) ∧ w.heap[i.D]? = some (.deferred (some [])) ∧ i.D ≠ i.b ∧
  Unb i.b ρ h ∧ Unb i.D ρ h ∧ FrOk E ρ h.n.toNat s.fr i.T ∧ s.N ≤ i.T.size⟩
theorem iterMd_ok (s : LS) (i : LI) : MdOk E (iterMd E s i) := ⟨fun hs hs' x hj => by
  obtain ⟨h1, h2, h3, h4, h5, h6, h7, h8⟩ := hj
  have hb := (Array.getElem?_eq_some_iff.1 h2).1
  obtain ⟨u1, k1⟩ := keep_block x h5 hb
  obtain ⟨u2, k2⟩ := keep_block x h6 (Array.getElem?_eq_some_iff.1 h3).1
  exact ⟨⟨h1, k1.trans h2, k2.trans h3, h4, u1, u2, h7.mono x.len x.agree, h8⟩, ext_mask x hb⟩⟩
/-! ### a round -/
theorem bindPs_ok : ∀ (ps : List Nat) (l : List V) (fr : Fr) (k : Fr → Nat), bindPs (ps.map keyOf) l fr k = 0 → ∃ fr', k fr' = 0 ∧ ps.length = l.length ∧
    ∀ (E : Env) ρ n (T : Array Value), (∀ p ∈ ps, p < T.size) → FrOk E ρ n fr T → bdL n l → FrOk E ρ n fr' ((ps.zip (γL E ρ l)).foldl (fun t (p : Nat × Value) => t.setIfInBounds p.1 p.2) T) ∧ ((ps.zip (γL E ρ l)).foldl (fun t (p : Nat × Value) => t.setIfInBounds p.1 p.2) T).size = T.size
  | [], [], fr, k, hk => ⟨fr, hk, rfl, fun E ρ n T _ hf _ => ⟨hf, rfl⟩⟩
  | [], v :: vs, fr, k, hk => absurd (show (1 : Nat) = 0 from hk) (by simp)
  | p :: ps, [], fr, k, hk => absurd (show (1 : Nat) = 0 from hk) (by simp)
  | p :: ps, v :: vs, fr, k, hk => by
    have hk : setF (keyOf p) fr v (fun fr => bindPs (ps.map keyOf) vs fr k) = 0 := hk
    obtain ⟨fr1, hk, g1, g2⟩ := setF_ok hk
    obtain ⟨fr', hk, hl, hr⟩ := bindPs_ok ps vs fr1 k hk
    refine ⟨fr', hk, by simp [hl], fun E ρ n T hp hf hb => ?_⟩
    have h1 := hr E ρ n (T.setIfInBounds p (v.γ E ρ)) (fun q hq => by simpa using hp q (List.mem_cons_of_mem _ hq)) (hf.set (hp p List.mem_cons_self) hb.1 g1 g2) hb.2
    simp only [γL, List.zip_cons_cons, List.foldl_cons]
    exact ⟨h1.1, by rw [h1.2]; simp⟩
def pdOf : AE → Pd
  | .normal => none
  | .ret => some .ret
  | .exit i => some (.exit i)
def bOf : AE → Bool
  | .normal => true
  | _ => false
theorem round_ok {Y : Ty} (hY : TyOk P Y) {c : YX} (hcall : CallOk E P c.call) {fr : Fr} {ps : Array Tmp} {as bd : Code} (hps : ∀ p ∈ ps.toList, p < N) :
    HandA E P (iterMd E ⟨fr, ps, as, bd, N⟩) (fun i => i.b) (roundT c fr (ps.toList.map keyOf) (codeY (cCodeY Y N as)) (codeY (cCodeY Y N bd))) := by
  intro l h fa k hk hfa
  obtain ⟨fr0, hk, hlen, hbind⟩ := bindPs_ok _ _ _ _ (show bindPs (ps.toList.map keyOf) l fr _ = 0 from hk)
  obtain ⟨ae, fr1, h1, fa1, ys1, pd1, hk, hfa1, r1⟩ := codeY_run (P := P) (M := fun _ : Unit => plainMd) (lb := fun _ => 0) (rg := false) hY (c := ⟨c.call, c.F, c.fuel, noHand, noItr⟩) hcall (fun _ => plainMd_ok) noHand_ok (noItr_rng rfl) as fr0 h fa [] none _ hfa hk
  obtain ⟨hp, hk⟩ := bcF_ok (show bc (isSo pd1) 1 _ = 0 from hk) (by simp)
  have hp := isSo_false hp
  subst hp
  cases ae with
  | ret => exact absurd (show (1 : Nat) = 0 from hk) (by simp)
  | exit j => exact absurd (show (1 : Nat) = 0 from hk) (by simp)
  | normal =>
  obtain ⟨ae, fr2, h2, fa2, ys2, pd2, hk, hfa2, r2⟩ := codeY_run (P := P) (M := fun _ : Unit => plainMd) (lb := fun _ => 0) (rg := false) hY (c := ⟨c.call, c.F, c.fuel, noHand, noItr⟩) hcall (fun _ => plainMd_ok) noHand_ok (noItr_rng rfl) bd fr1 h1 fa1 [] none _ hfa1 hk
  obtain ⟨hp, hk⟩ := bcF_ok (show bc (isSo pd2) 1 _ = 0 from hk) (by simp)
  have hk : k (bOf ae) h2 fa2 (pdOf ae) = 0 := by cases ae <;> exact hk
  refine ⟨_, _, _, _, hk, hfa2, fun i n ρ w ds hb hs hJ => ?_⟩
  obtain ⟨hds, hrec, hD, hne, hu1, hu2, hf, hN⟩ := hJ
  have hlt := (Array.getElem?_eq_some_iff.1 hrec).1
  obtain ⟨hf0, hsz0⟩ := hbind E ρ h.n.toNat i.T (fun p hp => Nat.lt_of_lt_of_le (hps p hp) hN) hf hb
  have hsize : (γL E ρ l).toArray.size = (recPd ⟨fr, ps, as, bd, N⟩ i none).params.size := by
    show (γL E ρ l).toArray.size = ps.size
    rw [List.size_toArray, γL_length, ← hlen]; simp
  refine ⟨i.fn, _, as, bd, run_yield hrec hsize, roundIn_of_wpIn trivial ?_⟩
  have htm : ((recPd ⟨fr, ps, as, bd, N⟩ i none).params.zip (γL E ρ l).toArray).foldl (fun tmps (x : Nat × Value) => tmps.setIfInBounds x.1 x.2) (recPd ⟨fr, ps, as, bd, N⟩ i none).tmps = (ps.toList.zip (γL E ρ l)).foldl (fun t (p : Nat × Value) => t.setIfInBounds p.1 p.2) i.T := by
    show (ps.zip (γL E ρ l).toArray).foldl (fun tmps (x : Nat × Value) => tmps.setIfInBounds x.1 x.2) i.T = _
    rw [← Array.foldl_toList, Array.toList_zip]
  rw [show (((recPd ⟨fr, ps, as, bd, N⟩ i none).params.zip (γL E ρ l).toArray).foldl (fun tmps x => match x with | (t, a) => tmps.setIfInBounds t a) (recPd ⟨fr, ps, as, bd, N⟩ i none).tmps) = _ from htm]
  refine r1 () (some i.b) n ρ w ⟨_, []⟩ _ (by simp) hs hf0 (by show N ≤ _; rw [hsz0]; exact hN) (fun t ht => by cases ht) rfl ?_
  rintro a1 w1 ⟨ρ1, f1, n1, _, s1, d1, x1⟩
  have x1 : Ext ρ h w ρ1 h1 w1 := x1
  obtain ⟨u1, k1⟩ := keep_block x1 hu1 hlt
  obtain ⟨u2, k2⟩ := keep_block x1 hu2 (Array.getElem?_eq_some_iff.1 hD).1
  have hlt1 : i.b < w1.heap.size := Nat.lt_of_lt_of_le hlt x1.size
  refine ⟨_, run_beginRound (k1.trans hrec) rfl, ?_⟩
  refine r2 () (some i.b) n ρ1 _ a1 _ (by simp) (put_sat s1 u1) f1 n1 (fun t ht => by cases ht) d1 ?_
  rintro a2 w3 ⟨ρ2, f2, n2, _, s2, d2, x2⟩
  have x2 : Ext ρ1 h1 (w1.putObj i.b (.loop { recPd ⟨fr, ps, as, bd, N⟩ i none with state := .busy })) ρ2 h2 w3 := x2
  have hlt2 : i.b < (w1.putObj i.b (.loop { recPd ⟨fr, ps, as, bd, N⟩ i none with state := .busy })).heap.size := by rw [World.putObj_size]; exact hlt1
  obtain ⟨u3, k3⟩ := keep_block x2 u1 hlt2
  have hD1 : (w1.putObj i.b (.loop { recPd ⟨fr, ps, as, bd, N⟩ i none with state := .busy })).heap[i.D]? = some (.deferred (some [])) := (World.putObj_heap_other hne).trans (k2.trans hD)
  obtain ⟨u4, k4⟩ := keep_block x2 u2 (Array.getElem?_eq_some_iff.1 hD1).1
  have hlt3 : i.b < w3.heap.size := Nat.lt_of_lt_of_le hlt2 x2.size
  have hbusy : w3.heap[i.b]? = some (.loop { recPd ⟨fr, ps, as, bd, N⟩ i none with state := .busy }) := k3.trans (World.putObj_heap_same hlt1)
  have ext : ∀ X, Ext ρ h (w.putObj i.b (.deferred none)) ρ2 h2 ((w3.putObj i.b X).putObj i.b (.deferred none)) := fun X => by
    rw [putObj_put]
    refine (ext_mask x1 hlt).trans ?_
    have := ext_mask (X := .deferred none) x2 hlt2
    rw [putObj_put] at this
    exact this
  have fin : ∀ (jump : Option Code) (pd : Pd), recPd ⟨fr, ps, as, bd, N⟩ i pd = recOf ⟨fr, ps, as, bd, N⟩ i (if jump.isNone then .ready else .done) jump →
      ∃ v w', (Instr.endRound i.b jump).run P w3 = .ok v w' ∧ v = .bool jump.isNone ∧ ∃ ρ', Sat E ρ' h2 w' ∧ (iterMd E ⟨fr, ps, as, bd, N⟩ i).J pd ds ρ' h2 w' ∧ Ext ρ h ((iterMd E ⟨fr, ps, as, bd, N⟩ i).m w) ρ' h2 ((iterMd E ⟨fr, ps, as, bd, N⟩ i).m w') := by
    intro jump pd hpd
    refine ⟨_, _, run_endRound jump hbusy, rfl, ρ2, put_sat s2 u3, ⟨hds, ?_, ?_, hne, u3, u4, (hf.mono x1.len x1.agree).mono x2.len x2.agree, hN⟩, ext _⟩
    · rw [World.putObj_heap_same hlt3, hpd]; rfl
    · rw [World.putObj_heap_other hne]; exact k4.trans hD1
  cases ae with
  | normal => obtain ⟨v, w', e1, e2, e3⟩ := fin none none rfl; exact ⟨v, w', e1, by rw [e2]; rfl, e3⟩
  | ret => obtain ⟨v, w', e1, e2, e3⟩ := fin (some .ret) (some .ret) rfl; exact ⟨v, w', e1, by rw [e2]; rfl, e3⟩
  | exit j => obtain ⟨v, w', e1, e2, e3⟩ := fin (some (.exit j)) (some (.exit j)) rfl; exact ⟨v, w', e1, by rw [e2]; rfl, e3⟩
/-! ### the loop -/
def ItrOk (E : Env) (P : Program) (itr : Nat → Option ItrT) : Prop := ∀ G it, itr G = some it → Callable P G ∧ ∀ (s : LS) hand l h fa k, HandA E P (iterMd E s) (fun i => i.b) hand → it hand l h fa k = 0 → FaOk E fa →
  ∃ h' fa' pd', k h' fa' pd' = 0 ∧ FaOk E fa' ∧ ∀ (i : LI) ρ w, bdL h.n.toNat l → Sat E ρ h w → (iterMd E s i).J none [] ρ h w → Calls P G (#[yvOf i.b] ++ (γL E ρ l).toArray) w fun e w' =>
    (∃ v, e = .returned v) ∧ ∃ ρ', Sat E ρ' h' w' ∧ (iterMd E s i).J pd' [] ρ' h' w' ∧ Ext ρ h ((iterMd E s i).m w) ρ' h' ((iterMd E s i).m w')
theorem pdCode_wp {e : AE} {r : Option Nat} {n : Nat} {Q : Exit → Act → World → Prop} {a : Act} {w : World} (h : Q (AE.exit' e) a w) : (pdCode e).wpIn (Fd r) n P Q a w := by
  cases e with
  | normal => exact wpIn_skip h
  | ret => exact wpIn_ret h
  | exit i => exact wpIn_exit h
theorem rng_run {Y : Ty} (hY : TyOk P Y) {c : YX} (hcall : CallOk E P c.call) (hitr : ItrOk E P c.itr) : ∀ g ps x y fr h fa ys pd k, FaOk E fa → codeY (cCodeY Y N (.rangeFunc g ps x y)) c fr h fa ys pd k = 0 →
    RunsY E P N callMd (fun _ => 0) true (.rangeFunc g ps x y) fr h ys pd k := by
  intro g ps x y fr h fa ys pd k hfa hk
  simp only [cCodeY] at hk
  split at hk
  rotate_left
  · exact (badY hk).elim
  rename_i g' hg'
  split at hk
  rotate_left
  · exact (badY hk).elim
  rename_i hall
  have hps : ∀ p ∈ ps.toList, p < N := by
    have : ∀ l : List Nat, allB (fun p => Nat.blt p N) l = true → ∀ p ∈ l, p < N := by
      intro l
      induction l with
      | nil => intro _ p hp; cases hp
      | cons a r ih =>
        intro hl p hp
        obtain ⟨h1, h2⟩ : Nat.blt a N = true ∧ allB (fun p => Nat.blt p N) r = true := by
          have hl : bc (Nat.blt a N) (allB (fun p => Nat.blt p N) r) false = true := hl
          rw [bc_eqB] at hl
          simpa using hl
        rcases List.mem_cons.1 hp with e | e
        · subst e; simpa using h1
        · exact ih h2 p e
    exact this _ hall
  obtain ⟨hp, hk2⟩ := bcF_ok (show bc (isSo pd) 1 (vFn (od g' fr) _ 1) = 0 from hk) (by simp)
  clear hk
  have hp := isSo_false hp
  subst hp
  have hk := hk2
  clear hk2
  generalize hod : od g' fr = q at hk
  unfold vFn at hk
  split at hk
  rotate_left
  · cases hk
  rename_i G pre caps
  obtain ⟨hpre, hk⟩ := bc_ok hk (by simp)
  have hpre := nilL_ok hpre
  subst hpre
  obtain ⟨it, hit, hk⟩ := oc_ok hk (by simp)
  obtain ⟨hca, hit⟩ := hitr G it hit
  obtain ⟨h', fa', pd', hk, hfa', hrun⟩ := hit ⟨fr, ps, x, y, N⟩ _ caps h fa _ (round_ok hY hcall hps) hk hfa
  have hk : k (match pd' with | none => .normal | some e => e) fr h' fa' ys (some .normal) = 0 := by cases pd' <;> exact hk
  refine ⟨_, _, _, _, _, _, hk, hfa', fun B r n ρ w a QQ hr hs hf hN hy hJ hQ => ?_⟩
  have hr := hr rfl
  subst hr
  rcases hJ with ⟨hB, _, hds⟩ | ⟨h1, _⟩
  rotate_left
  · cases h1
  obtain ⟨hge, hgb⟩ := od_run hf hg' hod
  have hge : a.eval g = .func (.func G) #[] (γL E ρ caps).toArray := by rw [hge]; simp [V.γ, γL]
  refine wpIn_rangeFunc (F := Fd none) fun fn _ => ?_
  obtain ⟨i, hi⟩ : ∃ i : LI, i = ⟨w.heap.size + 1, w.heap.size, a.tmps, fn⟩ := ⟨_, rfl⟩
  obtain ⟨W1, hW1⟩ : ∃ W1, (w.alloc (.deferred (some []))).alloc (.loop (recPd ⟨fr, ps, x, y, N⟩ i none)) = W1 := ⟨_, rfl⟩
  have hsz : W1.heap.size = w.heap.size + 2 := by rw [← hW1]; simp
  have hold : ∀ b, b < w.heap.size → W1.heap[b]? = w.heap[b]? := fun b hb => by
    rw [← hW1]
    show ((w.heap.push _).push _)[b]? = _
    rw [Array.getElem?_push, if_neg (by simp; omega), Array.getElem?_push, if_neg (by omega)]
  have hL1 : W1.heap[w.heap.size + 1]? = some (.loop (recPd ⟨fr, ps, x, y, N⟩ i none)) := by
    rw [← hW1]; have := World.alloc_heap_new (w.alloc (.deferred (some []))) (.loop (recPd ⟨fr, ps, x, y, N⟩ i none)); rwa [World.size_alloc] at this
  have hK1 : W1.heap[w.heap.size]? = some (.deferred (some [])) := by
    rw [← hW1]
    show ((w.heap.push _).push _)[w.heap.size]? = _
    rw [Array.getElem?_push, if_neg (by simp)]
    simp
  have hs1 : Sat E ρ h W1 := by rw [← hW1]; exact sat_alloc (sat_alloc hs _) _
  have hj1 : (iterMd E ⟨fr, ps, x, y, N⟩ i).J none [] ρ h W1 := by
    subst hi
    exact ⟨rfl, hL1, hK1, by simp, unb_new hs (by simp), unb_new hs (by simp), hf, hN⟩
  refine ⟨w.heap.size + 1, [markOf w.heap.size], W1, { target := .fn (.func G) (γL E ρ caps).toArray, args := #[.func (.yield (w.heap.size + 1)) #[] #[]] }, W1, G,
    #[.func (.yield (w.heap.size + 1)) #[] #[]] ++ (γL E ρ caps).toArray, W1, ?_, ?_, fun _ _ => trivial, ?_, fun h => by simp [Fd, Fence.wide] at h, ?_⟩
  · rw [← hW1, hi]; exact run_enterLoop_outer _ _ _ _ _
  · simp only [resolve, hge]
    simp [go_sem]
  · have := hca (#[.func (.yield (w.heap.size + 1)) #[] #[]] ++ (γL E ρ caps).toArray) W1
    simpa [invoke, go_sem] using this
  · have hc := hrun i ρ W1 hgb.2 hs1 hj1
    rw [hi] at hc
    refine (calls_fd hc).mono ?_
    rintro e w3 ⟨⟨v, rfl⟩, ρ', s3, ⟨_, hrec3, hD3, hne3, u3, u4, _, _⟩, x3⟩
    have hlt3 : w.heap.size + 1 < w3.heap.size := (Array.getElem?_eq_some_iff.1 hrec3).1
    have hend := run_endLoop (P := P) hrec3 (by cases pd' <;> simp [recPd, recOf])
    have hat : AtY E N (callMd B) (yvOf 0) ρ h w fr h' ys (some .normal) { a with defers := [markOf w.heap.size] ++ a.defers } (w3.putObj (w.heap.size + 1) (.loop { recPd ⟨fr, ps, x, y, N⟩ ⟨w.heap.size + 1, w.heap.size, a.tmps, fn⟩ pd' with state := .exhausted })) := by
      refine ⟨ρ', hf.mono x3.len x3.agree, hN, hy, put_sat s3 u3, .inr ⟨rfl, w.heap.size, hB, by rw [hds]; rfl, ?_, u4⟩, ?_⟩
      · rw [World.putObj_heap_other hne3]; exact hD3
      · have x3 : Ext ρ h (W1.putObj (w.heap.size + 1) (.deferred none)) ρ' h' (w3.putObj (w.heap.size + 1) (.deferred none)) := x3
        refine ⟨x3.len, x3.lo, x3.agree, fun p o h1 h2 h3 => ?_, ?_, ?_, ?_, ?_, fun b hb hno => ?_, x3.old, x3.liv⟩
        · rcases x3.new p o h1 h2 h3 with h4 | h4
          · rw [World.putObj_size, hsz] at h4
            exact .inl (by show w.heap.size ≤ _; omega)
          · exact .inr h4
        · exact x3.os.trans (by rw [← hW1]; rfl)
        · exact x3.tape.trans (by rw [← hW1]; rfl)
        · exact x3.output.trans (by rw [← hW1]; rfl)
        · show w.heap.size ≤ (w3.putObj _ _).heap.size
          rw [World.putObj_size]; omega
        · have hb : b < w.heap.size := hb
          have := x3.keep b (by rw [World.putObj_size, hsz]; omega) hno
          rw [World.putObj_heap_other (by omega), World.putObj_heap_other (by omega), hold b hb] at this
          show (w3.putObj _ _).heap[b]? = w.heap[b]?
          rw [World.putObj_heap_other (by omega)]
          exact this
    refine ⟨_, _, hend, ?_⟩
    cases pd' with
    | none => exact hQ _ _ hat
    | some e => exact pdCode_wp (r := none) (hQ _ _ hat)
end Go.Ev
end
