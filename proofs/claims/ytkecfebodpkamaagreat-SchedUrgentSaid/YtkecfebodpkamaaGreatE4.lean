/-
  Heaps out of lists of what lies in them; chunks of runs, with what is known.
-/
import Derived.Test.YtkecfebodpkamaaGreatE3
set_option linter.unusedSimpArgs false
set_option linter.unusedVariables false
noncomputable section
namespace Go.Ev
open Go
variable {E : Env} {P : Program}
inductive OS where
  | o (x : O) | a (t n d : Nat) (z : V) (l : List (Nat × V)) | va (t n d : Nat) (z : V) (l : List (Nat × V)) | u (l : List (Nat × V))
def trGo (d : Nat) (l : List (Nat × V)) (t : Tr V) : Tr V := List.foldl (fun t p => t.set d p.1 p.2) t l
def trK (d : Nat) (l : List (Nat × V)) : Tr V → (Tr V → Nat) → Nat := lRec (fun t k => k t) (fun p _ ih t k => pc p (fun a v => tset t d a v (fun t => ih t k))) l
def updO (l : List (Nat × V)) (o : O) : O := match o with
  | .arr t n d z tr => .arr t n d z (trGo d l tr)
  | .varr t n d z tr => .varr t n d z (trGo d l tr)
  | o => o
def updK (l : List (Nat × V)) (o : O) (k : O → Nat) : Nat := match o with
  | .arr t n d z tr => trK d l tr (fun tr => k (.arr t n d z tr))
  | .varr t n d z tr => trK d l tr (fun tr => k (.varr t n d z tr))
  | o => k o
def OS.mk (x : OS) (old : Option O) : O := match x with
  | .o x => x
  | .a t n d z l => .arr t n d z (trGo d l .nil)
  | .va t n d z l => .varr t n d z (trGo d l .nil)
  | .u l => oc old (updO l) .dead
def OS.mkK (x : OS) (old : Option O) (k : O → Nat) : Nat := match x with
  | .o x => k x
  | .a t n d z l => trK d l .nil (fun tr => k (.arr t n d z tr))
  | .va t n d z l => trK d l .nil (fun tr => k (.varr t n d z tr))
  | .u l => oc old (fun o => updK l o k) (k .dead)
def ptGo (l : List (Ev.P × OS)) (t : PT O) : PT O := List.foldl (fun t p => t.set p.1 (p.2.mk (t.get p.1))) t l
def ptK (l : List (Ev.P × OS)) : PT O → (PT O → Nat) → Nat := lRec (fun t k => k t) (fun p _ ih t k => pc p (fun a x => x.mkK (t.get a) (fun o => setK a t o (fun t => ih t k)))) l
structure HS where
  n : Ev.P
  lo : Ev.P
  l : List (Ev.P × OS)
def HS.mk' (s : HS) : H := ⟨s.n, s.lo, ptGo s.l .e⟩
def HS.mkK (s : HS) (k : H → Nat) : Nat := HS.rec (motive := fun _ => Nat) (fun n lo l => ptK l .e (fun t => k ⟨n, lo, t⟩)) s
theorem trK_eq (d : Nat) : ∀ (l : List (Nat × V)) (t : Tr V) (k : Tr V → Nat), trK d l t k = k (trGo d l t)
  | [], t, k => rfl
  | (a, v) :: r, t, k => by
    have e : trK d ((a, v) :: r) t k = tset t d a v (fun t => trK d r t k) := rfl
    rw [e, tset_eq, trK_eq d r]; rfl
theorem updK_eq (l : List (Nat × V)) (o : O) (k : O → Nat) : updK l o k = k (updO l o) := by
  cases o <;> try rfl
  · show trK _ l _ _ = _; rw [trK_eq]; rfl
  · show trK _ l _ _ = _; rw [trK_eq]; rfl
theorem OS.mkK_eq (x : OS) (old : Option O) (k : O → Nat) : x.mkK old k = k (x.mk old) := by
  cases x with
  | o x => rfl
  | a t n d z l => show trK d l .nil _ = _; rw [trK_eq]; rfl
  | va t n d z l => show trK d l .nil _ = _; rw [trK_eq]; rfl
  | u l =>
    cases old with
    | none => rfl
    | some o => show updK l o k = _; rw [updK_eq]; rfl
theorem ptK_eq : ∀ (l : List (Ev.P × OS)) (t : PT O) (k : PT O → Nat), ptK l t k = k (ptGo l t)
  | [], t, k => rfl
  | (a, x) :: r, t, k => by
    have e : ptK ((a, x) :: r) t k = x.mkK (t.get a) (fun o => setK a t o (fun t => ptK r t k)) := rfl
    rw [e, OS.mkK_eq, setK_eq, ptK_eq r]; rfl
theorem HS.mkK_eq (s : HS) (k : H → Nat) : s.mkK k = k s.mk' := by
  cases s with
  | mk n lo l => show ptK l .e _ = _; rw [ptK_eq]; rfl
structure MS where
  F : Nat
  l : List V
  h : HS
  v : V
  h' : HS
def MS.m (s : MS) : Memo := ⟨s.F, s.l, s.h.mk', s.v, s.h'.mk'⟩
def MS.run (s : MS) (call : CallT) (fa : Fa) : Nat := s.h.mkK (fun h => s.h'.mkK (fun h' => call s.F s.l h fa (chk s.v h')))
theorem chunkL_ok {m : Memo} {fa0 : Fa} {inner inner0 : CallT} (h1 : CallOk E P inner) (h0 : CallOk E P inner0) (hfa0 : FaOk E fa0) (hold : ∀ p : Ev.P, p.toNat < m.h.lo.toNat → m.h'.t.get p = m.h.t.get p) (hm : inner0 m.F m.l m.h fa0 (chk m.v m.h') = 0) : CallOk E P (memo m inner) := by
  intro F l h fa k hk hfa
  unfold memo at hk
  cases e1 : Nat.beq F m.F with
  | false => rw [e1] at hk; exact h1 F l h fa k hk hfa
  | true =>
    rw [e1] at hk
    have hk : bc (vlBeq l m.l) (bc (H.beq h m.h) (k m.v m.h' fa) (inner F l h fa k)) (inner F l h fa k) = 0 := hk
    cases e2 : vlBeq l m.l with
    | false => rw [e2] at hk; exact h1 F l h fa k hk hfa
    | true =>
      rw [e2] at hk
      have hk : bc (H.beq h m.h) (k m.v m.h' fa) (inner F l h fa k) = 0 := hk
      cases e3 : H.beq h m.h with
      | false => rw [e3] at hk; exact h1 F l h fa k hk hfa
      | true =>
        rw [e3] at hk
        have hk : k m.v m.h' fa = 0 := hk
        have e1 : F = m.F := by simpa using e1
        have e2 := vlBeq_ok e2
        have e3 := H.beq_ok e3
        subst e1; subst e2; subst e3
        obtain ⟨hca, v, h2, fa2, hc, _, hrun⟩ := h0 _ _ _ _ _ hm hfa0
        obtain ⟨rfl, en, el, hs⟩ := chk_ok hc
        refine ⟨hca, m.v, m.h', fa, hk, hfa, fun ρ w hb hsat => (hrun ρ w hb hsat).mono ?_⟩
        rintro e w' ⟨ρ', rfl, s, x, hv⟩
        refine ⟨ρ', rfl, ⟨fun p o hp => s.obj p o (hs p o hp), fun p q o o' hp hq => s.inj p q o o' (hs p o hp) (hs q o' hq), fun p o hp => by rw [en]; exact s.bd p o (hs p o hp)⟩, ?_, by rw [en]; exact hv⟩
        refine ⟨by rw [en]; exact x.len, el.trans x.lo, x.agree, fun p o hp hg hl => x.new p o hp (hs p o hg) hl, x.os, x.tape, x.output, x.size, x.keep, fun p hp _ => ?_, fun p o' hp hg hl => x.liv p o' hp (hs p o' hg) hl⟩
        exact hold p hp
theorem chunkF_ok {m : Memo} {fa0 : Fa} {inner inner0 : CallT} (h1 : CallOk E P inner) (h0 : CallOk E P inner0) (hfa0 : FaOk E fa0) (hlo : m.h.lo = .h) (hm : inner0 m.F m.l m.h fa0 (chk m.v m.h') = 0) : CallOk E P (memo m inner) :=
  chunkL_ok h1 h0 hfa0 (fun p hp => by
    rw [hlo] at hp
    have h3 := Ev.P.toNat_pos p
    have h4 : (Ev.P.h).toNat = 1 := rfl
    omega) hm
theorem ms_ok {s : MS} {fa0 : Fa} {inner inner0 : CallT} (hlo : s.h.lo = .h) (hm : s.run inner0 fa0 = 0) (hfa0 : FaOk E fa0) (h0 : CallOk E P inner0) (h1 : CallOk E P inner) : CallOk E P (memo s.m inner) := by
  unfold MS.run at hm
  rw [HS.mkK_eq, HS.mkK_eq] at hm
  exact chunkF_ok h1 h0 hfa0 hlo hm
def memoS (s : MS) (inner : CallT) : CallT := fun F l h fa k => bc (Nat.beq F s.F) (bc (vlBeq l s.l) (s.h.mkK (fun h0 => bc (H.beq h h0) (s.h'.mkK (fun h' => k s.v h' fa)) (inner F l h fa k))) (inner F l h fa k)) (inner F l h fa k)
theorem memoS_eq (s : MS) (inner : CallT) : memoS s inner = memo s.m inner := by
  funext F l h fa k
  unfold memoS memo
  rw [HS.mkK_eq, HS.mkK_eq]
  rfl
theorem msS_ok {s : MS} {fa0 : Fa} {inner inner0 : CallT} (hlo : s.h.lo = .h) (hm : s.run inner0 fa0 = 0) (hfa0 : FaOk E fa0) (h0 : CallOk E P inner0) (h1 : CallOk E P inner) : CallOk E P (memoS s inner) := by
  rw [memoS_eq]
  exact ms_ok hlo hm hfa0 h0 h1
theorem msR_ok {s : MS} {fa0 : Fa} {inner inner0 : CallT} (hlo : s.h.lo = .o .h) (hold : ooBeq (s.h'.mk'.t.get .h) (s.h.mk'.t.get .h) = true) (hm : s.run inner0 fa0 = 0) (hfa0 : FaOk E fa0) (h0 : CallOk E P inner0) (h1 : CallOk E P inner) : CallOk E P (memoS s inner) := by
  rw [memoS_eq]
  unfold MS.run at hm
  rw [HS.mkK_eq, HS.mkK_eq] at hm
  refine chunkL_ok h1 h0 hfa0 (fun p hp => ?_) hm
  have hp : p.toNat < s.h.lo.toNat := hp
  rw [hlo] at hp
  have h3 := Ev.P.toNat_pos p
  have h4 : (Ev.P.o .h).toNat = 2 := rfl
  have h5 : (Ev.P.h).toNat = 1 := rfl
  have : p = .h := Ev.P.toNat_inj (by omega)
  subst this
  exact ooBeq_ok hold
theorem lone_ok {F : Nat} {v : V} {inner : CallT} {fa0 : Fa} (hi : CallOk E P inner) (hfa0 : FaOk E fa0) (hv : v.bd 0) (hr : inner F [] ⟨.h, .h, .e⟩ fa0 (fun u _ _ => bc (V.beq u v) 0 1) = 0) :
    CallOk E P (fun G l h fa k => bc (Nat.beq G F) (lCase (k v h fa) (fun _ _ => 1) l) 1) := by
  intro G l h fa k hk hfa
  obtain ⟨hG, hk2⟩ := bc_ok (show bc (Nat.beq G F) (lCase (k v h fa) (fun _ _ => 1) l) 1 = 0 from hk) (by simp)
  clear hk
  have hG : G = F := by simpa using hG
  subst hG
  cases l with
  | cons a r => exact absurd (show (1 : Nat) = 0 from hk2) (by simp)
  | nil =>
  have hk : k v h fa = 0 := hk2
  obtain ⟨hca, u, h2, fa2, hc, _, hrun⟩ := hi _ _ _ _ _ hr hfa0
  obtain ⟨hu, _⟩ := bc_ok (show bc (V.beq u v) 0 1 = 0 from hc) (by simp)
  have hu := V.beq_ok hu
  subst hu
  refine ⟨hca, u, h, fa, hk, hfa, fun ρ w hb hs => (hrun ρ w trivial ⟨fun p o hp => ?_, fun p q o o' hp => ?_, fun p o hp => ?_⟩).mono ?_⟩
  · exact absurd (show (none : Option O) = some o from (PT.get_e p).symm.trans hp) (by simp)
  · exact absurd (show (none : Option O) = some o from (PT.get_e p).symm.trans hp) (by simp)
  · exact absurd (show (none : Option O) = some o from (PT.get_e p).symm.trans hp) (by simp)
  rintro e w' ⟨ρ', rfl, s, x, hv2⟩
  have hkeep : ∀ b, b < w.heap.size → w'.heap[b]? = w.heap[b]? := fun b hb => x.keep b hb fun p o hp => absurd (show (none : Option O) = some o from (PT.get_e p).symm.trans hp) (by simp)
  refine ⟨ρ, ?_, ⟨fun p o hp => O.Is_heap E (fun hl => hkeep _ (O.Is_lt E (hs.obj p o hp) hl)) (hs.obj p o hp), hs.inj, hs.bd⟩, ?_, bd_mono (Nat.zero_le _) u hv⟩
  · rw [γ_agree E (n := 0) (fun i hi => by omega) u hv]
  · exact ⟨Nat.le_refl _, rfl, fun _ _ => rfl, fun p o h1 h2 => by have := (hs.bd p o h2).1; omega, x.os, x.tape, x.output, x.size, fun b hb _ => hkeep b hb, fun _ _ _ => rfl, fun p o _ h1 _ => ⟨o, h1, by assumption⟩⟩
def endB : K := fun v _ _ => bc (V.beq v (.b true)) 0 1
theorem callOk_bad : CallOk E P (fun _ _ _ _ _ => 1) := fun F l h fa k hk => absurd (show (1 : Nat) = 0 from hk) (by simp)
def TrGood (Q : Nat → IFn → Prop) : Nat → Nat → Nat → Tr IFn → Prop
  | 0, _, b, .leaf a => Q b a
  | d + 1, s, b, .node l r => TrGood Q d (2 * s) b l ∧ TrGood Q d (2 * s) (b + s) r
  | _, _, _, _ => True
theorem even_dec (k : Nat) : even k = decide (k % 2 = 0) := by
  unfold even
  rw [Bool.eq_iff_iff, decide_eq_true_iff, Nat.beq_eq]
  exact Iff.rfl
theorem trGood_get {Q : Nat → IFn → Prop} : ∀ (d s b k : Nat) (t : Tr IFn) (a : IFn), TrGood Q d s b t → k < 2 ^ d → t.get d k = some a → Q (b + s * k) a
  | 0, s, b, k, t, a, hg, hk, h => by
    have : k = 0 := by simpa using hk
    subst this
    cases t with
    | leaf x => have h : some x = some a := h; cases h; exact hg
    | nil => cases h
    | node l r => cases h
  | d + 1, s, b, k, t, a, hg, hk, h => by
    cases t with
    | leaf x => cases h
    | nil => cases h
    | node l r =>
      have h : Bool.rec (motive := fun _ => Option IFn) (r.get d (Nat.div k 2)) (l.get d (Nat.div k 2)) (even k) = some a := h
      rw [even_dec] at h
      have hd : Nat.div k 2 = k / 2 := rfl
      rw [hd] at h
      have hk2 : k / 2 < 2 ^ d := by rw [Nat.pow_succ] at hk; omega
      by_cases e : k % 2 = 0
      · rw [decide_eq_true e] at h
        have := trGood_get d (2 * s) b (k / 2) l a hg.1 hk2 h
        rw [show b + 2 * s * (k / 2) = b + s * k by
          have : k = 2 * (k / 2) := by omega
          conv => rhs; rw [this]
          rw [Nat.mul_comm 2 s, Nat.mul_assoc]] at this
        exact this
      · rw [decide_eq_false e] at h
        have := trGood_get d (2 * s) (b + s) (k / 2) r a hg.2 hk2 h
        rw [show b + s + 2 * s * (k / 2) = b + s * k by
          have : k = 2 * (k / 2) + 1 := by omega
          conv => rhs; rw [this]
          rw [Nat.mul_comm 2 s, Nat.mul_assoc, Nat.mul_add, Nat.mul_one]; omega] at this
        exact this
def Good (P : Program) (F : Nat) (i : IFn) : Prop := ∃ (f : Func) (dr : Nat → Option Dr), P.funcs[F]? = some f ∧ Callable P F ∧ cFn (tyOf P) dr f = some i ∧ (∀ c, f.body = some c → drawB dr c = true)
def drawF (dr : Nat → Option Dr) (f : Func) : Bool := match f.body with
  | some c => drawB dr c
  | none => true
theorem good_of {F : Nat} {i : IFn} {f : Func} {dr : Nat → Option Dr} (h1 : P.funcs[F]? = some f) (h2 : Callable P F) (h3 : cFn (tyOf P) dr f = some i) (h4 : drawF dr f = true) : Good P F i :=
  ⟨f, dr, h1, h2, h3, fun c hc => by unfold drawF at h4; rw [hc] at h4; exact h4⟩
end Go.Ev
end
/-
  Words in symbols: what masks, shifts and joins of words come to.
-/
set_option linter.unusedSimpArgs false
set_option linter.unusedVariables false
noncomputable section
namespace Go.Ev
open Go
theorem arS_and (x y : Nat) (hx : x < 18446744073709551616) (hy : y < 18446744073709551616) : arS .and .u64 (x : Int) (y : Int) = ((Nat.land x y : Nat) : Int) := by
  have h1 : Nat.blt x (topOf .u64) = true := by simp [topOf]; omega
  have h2 : Nat.blt y (topOf .u64) = true := by simp [topOf]; omega
  show bitF .u64 Nat.land (fun a b => a &&& b) (.ofNat x) (.ofNat y) = _
  show bc (Nat.blt x (topOf .u64)) (bc (Nat.blt y (topOf .u64)) (Int.ofNat (Nat.land x y)) _) _ = _
  rw [h1, h2]; rfl
theorem arS_or (x y : Nat) (hx : x < 18446744073709551616) (hy : y < 18446744073709551616) : arS .or .u64 (x : Int) (y : Int) = ((Nat.lor x y : Nat) : Int) := by
  have h1 : Nat.blt x (topOf .u64) = true := by simp [topOf]; omega
  have h2 : Nat.blt y (topOf .u64) = true := by simp [topOf]; omega
  show bitF .u64 Nat.lor (fun a b => a ||| b) (.ofNat x) (.ofNat y) = _
  show bc (Nat.blt x (topOf .u64)) (bc (Nat.blt y (topOf .u64)) (Int.ofNat (Nat.lor x y)) _) _ = _
  rw [h1, h2]; rfl
theorem and_mask {x m : Int} (k : Nat) (hm : m = 2 ^ k - 1) (hk : k < 64) (h0 : 0 ≤ x) (h1 : x < 18446744073709551616) : arS .and .u64 x m = x % 2 ^ k := by
  obtain ⟨n, rfl⟩ := Int.eq_ofNat_of_zero_le h0
  have hp : 0 < 2 ^ k := Nat.two_pow_pos k
  have hlt : (2 : Nat) ^ k < 18446744073709551616 := by
    have : (2 : Nat) ^ k < 2 ^ 64 := Nat.pow_lt_pow_right (by omega) hk
    simpa using this
  have e : m = ((2 ^ k - 1 : Nat) : Int) := by
    rw [hm, Int.natCast_sub (by omega)]; simp
  rw [e, arS_and n _ (by omega) (by omega)]
  have : Nat.land n (2 ^ k - 1) = n % 2 ^ k := Nat.and_two_pow_sub_one_eq_mod n k
  rw [this]
  simp
theorem shr_val {x : Int} (n : Nat) (hn : n ≤ 64) (h0 : 0 ≤ x) : arS .shr .u64 x (n : Int) = x / 2 ^ n := by
  show (shI .shr .u64 x n).getD 0 = _
  have : min ((n : Int)).toNat (IntKind.bits .u64) = n := by
    show min n 64 = n
    omega
  simp only [shI, this, Option.getD_some]
  rw [Int.fdiv_eq_ediv_of_nonneg _ (by have : (0 : Int) < 2 ^ n := Int.pow_pos (by omega); omega)]
theorem shl_val {x : Int} (n : Nat) (hn : n ≤ 64) (h0 : 0 ≤ x) (h1 : x * 2 ^ n < 18446744073709551616) : arS .shl .u64 x (n : Int) = x * 2 ^ n := by
  show (shI .shl .u64 x n).getD 0 = _
  have : min ((n : Int)).toNat (IntKind.bits .u64) = n := by
    show min n 64 = n
    omega
  simp only [shI, this, Option.getD_some, wrapF_eq]
  have : 0 ≤ x * 2 ^ n := Int.mul_nonneg h0 (by have : (0 : Int) < 2 ^ n := Int.pow_pos (by omega); omega)
  rw [IntKind.wrap_u64]
  exact Int.emod_eq_of_lt this h1
theorem or_add {x y : Int} (k : Nat) (m : Int) (hx : x = m * 2 ^ k) (hm : 0 ≤ m) (h0 : 0 ≤ y) (h1 : y < 2 ^ k) (hb : x < 18446744073709551616) (hk : k ≤ 64) : arS .or .u64 x y = x + y := by
  obtain ⟨a, rfl⟩ := Int.eq_ofNat_of_zero_le hm
  obtain ⟨b, rfl⟩ := Int.eq_ofNat_of_zero_le h0
  have hxn : x = ((a * 2 ^ k : Nat) : Int) := by rw [hx]; simp
  have hbk : b < 2 ^ k := by
    have : ((2 ^ k : Nat) : Int) = 2 ^ k := by simp
    omega
  have hle : (2 : Nat) ^ k ≤ 18446744073709551616 := by
    have : (2 : Nat) ^ k ≤ 2 ^ 64 := Nat.pow_le_pow_right (by omega) hk
    simpa using this
  rw [hxn, arS_or _ _ (by omega) (by omega)]
  have : Nat.lor (a * 2 ^ k) b = a * 2 ^ k + b := by
    have := Nat.shiftLeft_add_eq_or_of_lt hbk a
    rw [Nat.shiftLeft_eq] at this
    exact this.symm
  rw [this]
  simp
end Go.Ev
end
