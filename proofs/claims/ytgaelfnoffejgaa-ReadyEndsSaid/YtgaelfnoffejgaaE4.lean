/-
 Heaps out of lists of what lies in them; chunks of runs, with what is known.
-/
import Derived.Test.YtgaelfnoffejgaaE3
import Derived.Test.YtgaelfnoffejgaaE2
import Derived.Below
set_option linter.unusedSimpArgs false
set_option linter.unusedVariables false
noncomputable section
namespace Go.Ev
open Go
variable {E : Env} {P : Program}
inductive OS where
 | o (x : O) | a (t n d : Nat) (z : V) (l : List (Nat × V)) | va (t n d : Nat) (z : V) (l : List (Nat × V)) | u (l : List (Nat × V))
def trGo (d : Nat) (l : List (Nat × V)) (t : Tr V) : Tr V := List.foldl (fun t p => t.set d p.1 p.2) t l
def trK (d : Nat) (l : List (Nat × V)) : Tr V → (Tr V → Nat) → Nat := lRec (fun t k => k t) (fun p _ ih t k => pc p (fun a v => tset t d a v (fun t => ih t k))) l
def updO (l : List (Nat × V)) (o : O) : O := match o with
 | .arr t n d z tr => .arr t n d z (trGo d l tr)
 | .varr t n d z tr => .varr t n d z (trGo d l tr)
 | o => o
def updK (l : List (Nat × V)) (o : O) (k : O → Nat) : Nat := match o with
 | .arr t n d z tr => trK d l tr (fun tr => k (.arr t n d z tr))
 | .varr t n d z tr => trK d l tr (fun tr => k (.varr t n d z tr))
 | o => k o
def OS.mk (x : OS) (old : Option O) : O := match x with
 | .o x => x
 | .a t n d z l => .arr t n d z (trGo d l .nil)
 | .va t n d z l => .varr t n d z (trGo d l .nil)
 | .u l => oc old (updO l) .dead
def OS.mkK (x : OS) (old : Option O) (k : O → Nat) : Nat := match x with
 | .o x => k x
 | .a t n d z l => trK d l .nil (fun tr => k (.arr t n d z tr))
 | .va t n d z l => trK d l .nil (fun tr => k (.varr t n d z tr))
 | .u l => oc old (fun o => updK l o k) (k .dead)
def ptGo (l : List (Ev.P × OS)) (t : PT O) : PT O := List.foldl (fun t p => t.set p.1 (p.2.mk (t.get p.1))) t l
def ptK (l : List (Ev.P × OS)) : PT O → (PT O → Nat) → Nat := lRec (fun t k => k t) (fun p _ ih t k => pc p (fun a x => x.mkK (t.get a) (fun o => setK a t o (fun t => ih t k)))) l
structure HS where
 n : Ev.P
 lo : Ev.P
 l : List (Ev.P × OS)
def HS.mk' (s : HS) : H := ⟨s.n, s.lo, ptGo s.l .e⟩
def HS.mkK (s : HS) (k : H → Nat) : Nat := HS.rec (motive := fun _ => Nat) (fun n lo l => ptK l .e (fun t => k ⟨n, lo, t⟩)) s
structure MS where
 F : Nat
 l : List V
 h : HS
 v : V
 h' : HS
def MS.m (s : MS) : Memo := ⟨s.F, s.l, s.h.mk', s.v, s.h'.mk'⟩
def MS.run (s : MS) (call : CallT) (fa : Fa) : Nat := s.h.mkK (fun h => s.h'.mkK (fun h' => call s.F s.l h fa (chk s.v h')))
theorem lone_ok {F : Nat} {v : V} {inner : CallT} {fa0 : Fa} (hi : CallOk E P inner) (hfa0 : FaOk E fa0) (hv : v.bd 0) (hr : inner F [] ⟨.h, .h, .e⟩ fa0 (fun u _ _ => bc (V.beq u v) 0 1) = 0) :
  CallOk E P (fun G l h fa k => bc (Nat.beq G F) (lCase (k v h fa) (fun _ _ => 1) l) 1) := by
 intro G l h fa k hk hfa
 obtain ⟨hG, hk2⟩ := bc_ok (show bc (Nat.beq G F) (lCase (k v h fa) (fun _ _ => 1) l) 1 = 0 from hk) (by simp)
 clear hk
 have hG : G = F := by simpa using hG
 subst hG
 cases l with
 | cons a r => exact absurd (show (1 : Nat) = 0 from hk2) (by simp)
 | nil =>
 have hk : k v h fa = 0 := hk2
 obtain ⟨hca, u, h2, fa2, hc, _, hrun⟩ := hi _ _ _ _ _ hr hfa0
 obtain ⟨hu, _⟩ := bc_ok (show bc (V.beq u v) 0 1 = 0 from hc) (by simp)
 have hu := V.beq_ok hu
 subst hu
 refine ⟨hca, u, h, fa, hk, hfa, fun ρ w hb hs => (hrun ρ w trivial ⟨fun p o hp => ?_, fun p q o o' hp => ?_, fun p o hp => ?_⟩).mono ?_⟩
 ·exact absurd (show (none : Option O) = some o from (PT.get_e p).symm.trans hp) (by simp)
 ·exact absurd (show (none : Option O) = some o from (PT.get_e p).symm.trans hp) (by simp)
 ·exact absurd (show (none : Option O) = some o from (PT.get_e p).symm.trans hp) (by simp)
 rintro e w' ⟨ρ', rfl, s, x, hv2⟩
 have hkeep : ∀ b, b < w.heap.size → w'.heap[b]? = w.heap[b]? := fun b hb => x.keep b hb fun p o hp => absurd (show (none : Option O) = some o from (PT.get_e p).symm.trans hp) (by simp)
 refine ⟨ρ, ?_, ⟨fun p o hp => O.Is_heap E (fun hl => hkeep _ (O.Is_lt E (hs.obj p o hp) hl)) (hs.obj p o hp), hs.inj, hs.bd⟩, ?_, bd_mono (Nat.zero_le _) u hv⟩
 ·rw [γ_agree E (n := 0) (fun i hi => by omega) u hv]
 ·exact ⟨Nat.le_refl _, rfl, fun _ _ => rfl, fun p o h1 h2 => by have := (hs.bd p o h2).1; omega, x.os, x.tape, x.output, x.size, fun b hb _ => hkeep b hb, fun _ _ _ => rfl, fun p o _ h1 _ => ⟨o, h1, by assumption⟩⟩
def endB : K := fun v _ _ => bc (V.beq v (.b true)) 0 1
def TrGood (Q : Nat → IFn → Prop) : Nat → Nat → Nat → Tr IFn → Prop
 | 0, _, b, .leaf a => Q b a
 | d + 1, s, b, .node l r => TrGood Q d (2 * s) b l ∧ TrGood Q d (2 * s) (b + s) r
 | _, _, _, _ => True
theorem even_dec (k : Nat) : even k = decide (k % 2 = 0) := by
 unfold even
 rw [Bool.eq_iff_iff, decide_eq_true_iff, Nat.beq_eq]
 exact Iff.rfl
theorem trGood_get {Q : Nat → IFn → Prop} : ∀ (d s b k : Nat) (t : Tr IFn) (a : IFn), TrGood Q d s b t → k < 2 ^ d → t.get d k = some a → Q (b + s * k) a
 | 0, s, b, k, t, a, hg, hk, h => by
  have : k = 0 := by simpa using hk
  subst this
  cases t with
  | leaf x => have h : some x = some a := h; cases h; exact hg
  | nil => cases h
  | node l r => cases h
 | d + 1, s, b, k, t, a, hg, hk, h => by
  cases t with
  | leaf x => cases h
  | nil => cases h
  | node l r =>
   have h : Bool.rec (motive := fun _ => Option IFn) (r.get d (Nat.div k 2)) (l.get d (Nat.div k 2)) (even k) = some a := h
   rw [even_dec] at h
   have hd : Nat.div k 2 = k / 2 := rfl
   rw [hd] at h
   have hk2 : k / 2 < 2 ^ d := by rw [Nat.pow_succ] at hk; omega
   by_cases e : k % 2 = 0
   ·rw [decide_eq_true e] at h
    have := trGood_get d (2 * s) b (k / 2) l a hg.1 hk2 h
    rw [show b + 2 * s * (k / 2) = b + s * k by
     have : k = 2 * (k / 2) := by omega
     conv => rhs; rw [this]
     rw [Nat.mul_comm 2 s, Nat.mul_assoc]] at this
    exact this
   ·rw [decide_eq_false e] at h
    have := trGood_get d (2 * s) (b + s) (k / 2) r a hg.2 hk2 h
    rw [show b + s + 2 * s * (k / 2) = b + s * k by
     have : k = 2 * (k / 2) + 1 := by omega
     conv => rhs; rw [this]
     rw [Nat.mul_comm 2 s, Nat.mul_assoc, Nat.mul_add, Nat.mul_one]; omega] at this
    exact this
def Good (P : Program) (F : Nat) (i : IFn) : Prop := ∃ (f : Func) (dr : Nat → Option Dr), P.funcs[F]? = some f ∧ Callable P F ∧ cFn (tyOf P) dr f = some i ∧ (∀ c, f.body = some c → drawB dr c = true)
def drawF (dr : Nat → Option Dr) (f : Func) : Bool := match f.body with
 | some c => drawB dr c
 | none => true
theorem good_of {F : Nat} {i : IFn} {f : Func} {dr : Nat → Option Dr} (h1 : P.funcs[F]? = some f) (h2 : Callable P F) (h3 : cFn (tyOf P) dr f = some i) (h4 : drawF dr f = true) : Good P F i :=
 ⟨f, dr, h1, h2, h3, fun c hc => by unfold drawF at h4; rw [hc] at h4; exact h4⟩
end Go.Ev
end
/-
 Lists of numbers; all of a list.
-/
set_option linter.unusedSimpArgs false
set_option linter.unusedVariables false
noncomputable section
namespace Go.Ev
open Go
theorem allB_ok {α : Type} {p : α → Bool} : ∀ {l : List α}, allB p l = true → ∀ x ∈ l, p x = true
 | [], _, x, hx => by cases hx
 | a :: r, h, x, hx => by
  obtain ⟨h1, h2⟩ : p a = true ∧ allB p r = true := by
   have h : bc (p a) (allB p r) false = true := h
   cases hp : p a <;> rw [hp] at h
   ·cases h
   ·exact ⟨rfl, h⟩
  rcases List.mem_cons.1 hx with rfl | hx
  ·exact h1
  ·exact allB_ok h2 x hx
def rngF (a : Nat) : Nat → List Nat
 | 0 => []
 | n + 1 => a :: rngF (a + 1) n
def rng (n : Nat) : List Nat := rngF 0 n
theorem mem_rngF : ∀ {n a j : Nat}, a ≤ j → j < a + n → j ∈ rngF a n
 | 0, a, j, h1, h2 => by omega
 | n + 1, a, j, h1, h2 => by
  by_cases h : j = a
  ·subst h; exact List.mem_cons_self ..
  ·exact List.mem_cons_of_mem _ (mem_rngF (by omega) (by omega))
theorem rngF_ok {p : Nat → Bool} {a n : Nat} (h : allB p (rngF a n) = true) : ∀ j, a ≤ j → j < a + n → p j = true := fun j h1 h2 => allB_ok h j (mem_rngF h1 h2)
theorem rng_ok {p : Nat → Bool} {n : Nat} (h : allB p (rng n) = true) : ∀ j, j < n → p j = true := fun j hj => rngF_ok h j (Nat.zero_le _) (by omega)
end Go.Ev
end
/-
 Words in symbols: what masks, shifts and joins of words come to.
-/
set_option linter.unusedSimpArgs false
set_option linter.unusedVariables false
noncomputable section
namespace Go.Ev
open Go
theorem arS_and (x y : Nat) (hx : x < 18446744073709551616) (hy : y < 18446744073709551616) : arS .and .u64 (x : Int) (y : Int) = ((Nat.land x y : Nat) : Int) := by
 have h1 : Nat.blt x (topOf .u64) = true := by simp [topOf]; omega
 have h2 : Nat.blt y (topOf .u64) = true := by simp [topOf]; omega
 show bitF .u64 Nat.land (fun a b => a &&& b) (.ofNat x) (.ofNat y) = _
 show bc (Nat.blt x (topOf .u64)) (bc (Nat.blt y (topOf .u64)) (Int.ofNat (Nat.land x y)) _) _ = _
 rw [h1, h2]; rfl
theorem arS_or (x y : Nat) (hx : x < 18446744073709551616) (hy : y < 18446744073709551616) : arS .or .u64 (x : Int) (y : Int) = ((Nat.lor x y : Nat) : Int) := by
 have h1 : Nat.blt x (topOf .u64) = true := by simp [topOf]; omega
 have h2 : Nat.blt y (topOf .u64) = true := by simp [topOf]; omega
 show bitF .u64 Nat.lor (fun a b => a ||| b) (.ofNat x) (.ofNat y) = _
 show bc (Nat.blt x (topOf .u64)) (bc (Nat.blt y (topOf .u64)) (Int.ofNat (Nat.lor x y)) _) _ = _
 rw [h1, h2]; rfl
theorem and_mask {x m : Int} (k : Nat) (hm : m = 2 ^ k - 1) (hk : k < 64) (h0 : 0 ≤ x) (h1 : x < 18446744073709551616) : arS .and .u64 x m = x % 2 ^ k := by
 obtain ⟨n, rfl⟩ := Int.eq_ofNat_of_zero_le h0
 have hp : 0 < 2 ^ k := Nat.two_pow_pos k
 have hlt : (2 : Nat) ^ k < 18446744073709551616 := by
  have : (2 : Nat) ^ k < 2 ^ 64 := Nat.pow_lt_pow_right (by omega) hk
  simpa using this
 have e : m = ((2 ^ k - 1 : Nat) : Int) := by
  rw [hm, Int.natCast_sub (by omega)]; simp
 rw [e, arS_and n _ (by omega) (by omega)]
 have : Nat.land n (2 ^ k - 1) = n % 2 ^ k := Nat.and_two_pow_sub_one_eq_mod n k
 rw [this]
 simp
theorem shr_val {x : Int} (n : Nat) (hn : n ≤ 64) (h0 : 0 ≤ x) : arS .shr .u64 x (n : Int) = x / 2 ^ n := by
 show (shI .shr .u64 x n).getD 0 = _
 have : min ((n : Int)).toNat (IntKind.bits .u64) = n := by
  show min n 64 = n
  omega
 simp only [shI, this, Option.getD_some]
 rw [Int.fdiv_eq_ediv_of_nonneg _ (by have : (0 : Int) < 2 ^ n := Int.pow_pos (by omega); omega)]
theorem shl_val {x : Int} (n : Nat) (hn : n ≤ 64) (h0 : 0 ≤ x) (h1 : x * 2 ^ n < 18446744073709551616) : arS .shl .u64 x (n : Int) = x * 2 ^ n := by
 show (shI .shl .u64 x n).getD 0 = _
 have : min ((n : Int)).toNat (IntKind.bits .u64) = n := by
  show min n 64 = n
  omega
 simp only [shI, this, Option.getD_some, wrapF_eq]
 have : 0 ≤ x * 2 ^ n := Int.mul_nonneg h0 (by have : (0 : Int) < 2 ^ n := Int.pow_pos (by omega); omega)
 rw [IntKind.wrap_u64]
 exact Int.emod_eq_of_lt this h1
theorem or_add {x y : Int} (k : Nat) (m : Int) (hx : x = m * 2 ^ k) (hm : 0 ≤ m) (h0 : 0 ≤ y) (h1 : y < 2 ^ k) (hb : x < 18446744073709551616) (hk : k ≤ 64) : arS .or .u64 x y = x + y := by
 obtain ⟨a, rfl⟩ := Int.eq_ofNat_of_zero_le hm
 obtain ⟨b, rfl⟩ := Int.eq_ofNat_of_zero_le h0
 have hxn : x = ((a * 2 ^ k : Nat) : Int) := by rw [hx]; simp
 have hbk : b < 2 ^ k := by
  have : ((2 ^ k : Nat) : Int) = 2 ^ k := by simp
  omega
 have hle : (2 : Nat) ^ k ≤ 18446744073709551616 := by
  have : (2 : Nat) ^ k ≤ 2 ^ 64 := Nat.pow_le_pow_right (by omega) hk
  simpa using this
 rw [hxn, arS_or _ _ (by omega) (by omega)]
 have : Nat.lor (a * 2 ^ k) b = a * 2 ^ k + b := by
  have := Nat.shiftLeft_add_eq_or_of_lt hbk a
  rw [Nat.shiftLeft_eq] at this
  exact this.symm
 rw [this]
 simp
end Go.Ev
end
/-
 What a run that ends with a value gives.
-/
set_option linter.unusedSimpArgs false
set_option linter.unusedVariables false
noncomputable section
namespace Go.Ev
open Go Go.RowKit
variable {E : Env} {P : Program}
def endV (v : V) : K := fun u _ _ => bc (V.beq u v) 0 1
end Go.Ev
end
/-
 Laws that loop over what came in: the loop's head has finitely many states, told in symbols.
-/
set_option linter.unusedSimpArgs false
set_option linter.unusedVariables false
noncomputable section
namespace Go.Ev
open Go Go.RowKit
inductive ZC where
 | hole | seqL (z : ZC) (b : Code) | seqR (a : Code) (z : ZC) | block (i : Nat) (z : ZC)
def ZC.plug (x : Code) : ZC → Code
 | .hole => x
 | .seqL z b => .seq (z.plug x) b
 | .seqR a z => .seq a (z.plug x)
 | .block i z => .block i (z.plug x)
def ZC.drB (dr : Nat → Option Dr) : ZC → Bool
 | .hole => true
 | .seqL z b => z.drB dr && drawB dr b
 | .seqR a z => drawB dr a && z.drB dr
 | .block _ z => z.drB dr
inductive ZI where
 | hole | seqL (z : ZI) (b : IC) | seqR (a : IC) (z : ZI) | block (i : Nat) (z : ZI)
def zGo (Y : Ty) (N : Nat) (dr : Nat → Option Dr) : ZC → ZI
 | .hole => .hole
 | .seqL z b => .seqL (zGo Y N dr z) (cCode Y N dr b)
 | .seqR a z => .seqR (cCode Y N dr a) (zGo Y N dr z)
 | .block i z => .block i (zGo Y N dr z)
def kSeq (b : IC) (g : Ctx) (ko : K2) : K2 := fun e fr h fa => aeGo e (codeT b g fr h fa ko) (ko .ret fr h fa) (fun i => ko (.exit i) fr h fa)
def kBlk (i : Nat) (ko : K2) : K2 := fun e fr h fa => aeGo e (ko .normal fr h fa) (ko .ret fr h fa) (fun j => bc (Nat.beq j i) (ko .normal fr h fa) (ko (.exit j) fr h fa))
def zIn : ZI → Ctx → Fr → H → Fa → K1 → K2 → Nat
 | .hole, _, fr, h, fa, k, _ => k fr h fa
 | .seqL z b, g, fr, h, fa, k, ko => zIn z g fr h fa k (kSeq b g ko)
 | .seqR a z, g, fr, h, fa, k, ko => codeT a g fr h fa (fun e fr h fa => aeGo e (zIn z g fr h fa k ko) (ko .ret fr h fa) (fun i => ko (.exit i) fr h fa))
 | .block i z, g, fr, h, fa, k, ko => zIn z g fr h fa k (kBlk i ko)
def zOut : ZI → Ctx → K2 → K2
 | .hole, _, ko => ko
 | .seqL z b, g, ko => zOut z g (kSeq b g ko)
 | .seqR _ z, g, ko => zOut z g ko
 | .block i z, g, ko => zOut z g (kBlk i ko)
abbrev Sg := Nat → Option SE
def sbE (σ : Sg) : SE → Option SE
 | .v i => σ i
 | .lit n => some (.lit n)
 | .op o k a b => match sbE σ a, sbE σ b with
  | some a, some b => some (.op o k a b)
  | _, _ => none
 | .cv k a => match sbE σ a with
  | some a => some (.cv k a)
  | none => none
 | .mm x a b => match sbE σ a, sbE σ b with
  | some a, some b => some (.mm x a b)
  | _, _ => none
def sbB (σ : Sg) : SB → Option SB
 | .v i => some (.v i)
 | .cmp o a b => match sbE σ a, sbE σ b with
  | some a, some b => some (.cmp o a b)
  | _, _ => none
 | .not a => match sbB σ a with
  | some a => some (.not a)
  | none => none
 | .and a b => match sbB σ a, sbB σ b with
  | some a, some b => some (.and a b)
  | _, _ => none
def mE (σ : Sg) (e u : SE) : Bool := match sbE σ e with
 | some s => SE.beq s u
 | none => false
mutual
def mV (σ : Sg) : V → V → Bool
 | .b x, .b y => boEq x y
 | .i k n, .i k' n' => kEq k k' && iEq n n'
 | .sb c, .sb c' => match sbB σ c with
  | some s => SB.beq s c'
  | none => false
 | .si k e, .si k' e' => kEq k k' && mE σ e e'
 | .si k e, .i k' n => kEq k k' && mE σ e (.lit n)
 | .ptr a o, .ptr b o' => pEq a b && Nat.beq o o'
 | .nil, .nil => true
 | .sl a o n c, .sl a' o' n' c' => pEq a a' && Nat.beq o o' && Nat.beq n n' && Nat.beq c c'
 | .vec a n, .vec a' n' => pEq a a' && Nat.beq n n'
 | .vt a o n, .vt a' o' n' => pEq a a' && Nat.beq o o' && Nat.beq n n'
 | .snil, .snil => true
 | .fn F p c, .fn F' p' c' => Nat.beq F F' && mL σ p p' && mL σ c c'
 | .fnil, .fnil => true
 | .agg l, .agg l' => mL σ l l'
 | .tup l, .tup l' => mL σ l l'
 | .fs a q, .fs a' q' => pEq a a' && Nat.beq q q' && Nat.blt q 50
 | .mp a, .mp b => pEq a b
 | .mnil, .mnil => true
 | _, _ => false
def mL (σ : Sg) : List V → List V → Bool
 | [], [] => true
 | x :: r, y :: s => mV σ x y && mL σ r s
 | _, _ => false
end
def mTrN (σ : Sg) (z' : V) : Tr V → Bool
 | .nil => true
 | .leaf a => mV σ a z'
 | .node l r => mTrN σ z' l && mTrN σ z' r
def mTr (σ : Sg) (z' : V) : Tr V → Tr V → Bool
 | t, .nil => mTrN σ z' t
 | .leaf a, .leaf b => mV σ a b
 | .node l r, .node l' r' => mTr σ z' l l' && mTr σ z' r r'
 | _, _ => false
def mP (σ : Sg) : List (V × V) → List (V × V) → Bool
 | [], [] => true
 | (a, b) :: r, (c, d) :: s => mV σ a c && mV σ b d && mP σ r s
 | _, _ => false
def trNilB (t : Tr V) : Bool := match t with
 | .nil => true
 | _ => false
def renB (σ : Sg) (q q' : Nat) : Bool := match σ (100000 + q) with
 | some (.lit n) => iEq n (.ofNat q')
 | _ => false
def mO (σ : Sg) : O → O → Bool
 | .cells t l, .cells t' l' => Nat.beq t t' && mL σ l l'
 | .arr t n d z tr, .arr t' n' d' z' tr' => Nat.beq t t' && Nat.beq n n' && Nat.beq d d' && mV σ z z' && mTr σ z' tr tr'
 | .vec t e n l, .vec t' e' n' l' => Nat.beq t t' && Nat.beq e e' && Nat.beq n n' && mL σ l l'
 | .varr t n d z tr, .varr t' n' d' z' tr' => Nat.beq t t' && Nat.beq n n' && Nat.beq d d' && mV σ z z' && mTr σ z' tr tr'
 | .row q z N _ _, .row q' z' N' _ _ => Nat.beq q q' && Nat.beq z z' && mE σ N N' && Nat.blt q 50
 | .oa t q n d tr, .oa t' q' n' d' tr' => Nat.beq t t' && Nat.beq n n' && Nat.beq d d' && trNilB tr && trNilB tr' && Nat.ble 50 q && renB σ q q'
 | .map l, .map l' => mP σ l l'
 | .dead, .dead => true
 | _, _ => false
def trBdB (n : P) : Tr V → Bool
 | .nil => true
 | .leaf a => a.bdB n
 | .node l r => trBdB n l && trBdB n r
def oBdB (n : P) : O → Bool
 | .cells _ l => bdLB n l
 | .arr _ _ _ z tr => z.bdB n && trBdB n tr
 | .vec _ _ _ l => bdLB n l
 | .varr _ _ _ z tr => z.bdB n && trBdB n tr
 | .row _ _ _ _ l => bdLB n l
 | .oa _ _ _ _ tr => trBdB n tr
 | .map l => allB (fun p : V × V => p.1.bdB n && p.2.bdB n) l
 | .x _ => false
 | .dead => true
def ptAll (q : P → O → Bool) (f : P → P) : PT O → Bool
 | .e => true
 | .n v l r => (match v with
  | some o => q (f .h) o
  | none => true) && ptAll q (fun p => f (.o p)) l && ptAll q (fun p => f (.i p)) r
structure GS where
 fr : List (Ky × V)
 h : H
def frOf (l : List (Ky × V)) (k : Fr → Nat) : Nat := lRec (fun fr k => k fr) (fun p _ ih fr k => pc p (fun q v => setF q fr v (fun fr => ih fr k))) l Fr.e k
def matchB (S : GS) (σ : Sg) (fr : Fr) (h : H) : Bool :=
 hc S.h (fun n lo t => hc h (fun _ lo' t' => pEq lo lo' &&
  allB (fun p : Ky × V => p.2.bdB n && (match fr.get p.1 with
   | some u => mV σ p.2 u
   | none => false)) S.fr &&
  ptAll (fun p o => pLt p n && oBdB n o && (match t'.get p with
   | some u => mO σ o u
   | none => false)) (fun p => p) t))
def nextK (st : Nat → GS) (nx : List (Nat × Sg)) (fr : Fr) (h : H) : Nat := lCase 1 (fun _ _ => bc (allB (fun p : Nat × Sg => matchB (st p.1) p.2 fr h) nx) 0 1) nx
def runJ (st : Nat → GS) (x : IC) (z : ZI) (ko : K2) (g : Ctx) (j : Nat) (fa : Fa) (nx : List (Nat × Sg)) : Nat :=
 frOf (st j).fr (fun fr => codeT x g fr (st j).h fa (fun e fr h fa => aeGo e (nextK st nx fr h) (zOut z g ko .ret fr h fa) (fun i => zOut z g ko (.exit i) fr h fa)))

variable {E E' : Env} {P : Program} {N : Nat}
def rowSame (a b : Row) : Prop := a.b = b.b ∧ a.off = b.off ∧ a.len = b.len ∧ a.cap = b.cap ∧ a.esz = b.esz ∧ a.t = b.t ∧ a.cs = b.cs ∧ a.fz = b.fz
structure TrE (σ : Sg) (E E' : Env) : Prop where
 i : ∀ i s, σ i = some s → E'.i i = s.den E
 b : E'.b = E.b
 s : ∀ q, q < 50 → rowSame (E'.s q) (E.s q)
 r : ∀ q q', 50 ≤ q → σ (100000 + q) = some (.lit (.ofNat q')) → (E'.s q).cs = (E.s q').cs
theorem sbE_ok {σ : Sg} (t : TrE σ E E') : ∀ {e u : SE}, sbE σ e = some u → u.den E = e.den E'
 | .v i, u, h => (t.i i u h).symm
 | .lit n, u, h => by simp [sbE] at h; subst h; rfl
 | .op o k a b, u, h => by
  simp only [sbE] at h
  split at h
  ·rename_i x y hx hy
   simp at h; subst h
   simp only [SE.den, sbE_ok t hx, sbE_ok t hy]
  ·simp at h
 | .cv k a, u, h => by
  simp only [sbE] at h
  split at h
  ·rename_i x hx
   simp at h; subst h
   simp only [SE.den, sbE_ok t hx]
  ·simp at h
 | .mm x a b, u, h => by
  simp only [sbE] at h
  split at h
  ·rename_i p q hp hq
   simp at h; subst h
   cases x <;> simp only [SE.den, sbE_ok t hp, sbE_ok t hq]
  ·simp at h
theorem sbB_ok {σ : Sg} (t : TrE σ E E') : ∀ {c u : SB}, sbB σ c = some u → u.den E = c.den E'
 | .v i, u, h => by simp [sbB] at h; subst h; simp only [SB.den, t.b]
 | .cmp o a b, u, h => by
  simp only [sbB] at h
  split at h
  ·rename_i x y hx hy
   simp at h; subst h
   simp only [SB.den, sbE_ok t hx, sbE_ok t hy]
  ·simp at h
 | .not a, u, h => by
  simp only [sbB] at h
  split at h
  ·rename_i x hx
   simp at h; subst h
   simp only [SB.den, sbB_ok t hx]
  ·simp at h
 | .and a b, u, h => by
  simp only [sbB] at h
  split at h
  ·rename_i x y hx hy
   simp at h; subst h
   simp only [SB.den, sbB_ok t hx, sbB_ok t hy]
  ·simp at h
theorem mE_ok {σ : Sg} (t : TrE σ E E') {e u : SE} (h : mE σ e u = true) : u.den E = e.den E' := by
 unfold mE at h
 split at h
 ·rename_i s hs
  rw [← SE.beq_eq h]; exact sbE_ok t hs
 ·cases h
mutual
theorem mV_ok {σ : Sg} (t : TrE σ E E') (ρ : Rho) : ∀ {v u : V}, mV σ v u = true → u.γ E ρ = v.γ E' ρ
 | .b x, u, h => by cases u <;> simp only [mV] at h <;> first | (simp at h; done) | rw [boEq_ok h]; rfl
 | .i k n, u, h => by
  cases u <;> simp only [mV, Bool.and_eq_true] at h <;> first | (simp at h; done) | skip
  have h2 := h.2
  rw [iEq_eq] at h2
  rw [kEq_eq h.1, of_decide_eq_true h2]; rfl
 | .sb c, u, h => by
  cases u <;> simp only [mV] at h <;> first | (simp at h; done) | skip
  split at h
  ·rename_i s hs
   simp only [V.γ, ← sbB_ok t hs, SB.beq_eq h]
  ·cases h
 | .si k e, u, h => by
  cases u <;> simp only [mV, Bool.and_eq_true] at h <;> first | (simp at h; done) | skip
  ·have h2 := mE_ok t h.2
   simp only [V.γ, ← h2, kEq_eq h.1, SE.den]
  ·simp only [V.γ, mE_ok t h.2, kEq_eq h.1]
 | .ptr a o, u, h => by
  cases u <;> simp only [mV, Bool.and_eq_true, Nat.beq_eq] at h <;> first | (simp at h; done) | skip
  rw [pEq_ok h.1, h.2]; rfl
 | .nil, u, h => by cases u <;> simp only [mV] at h <;> first | (simp at h; done) | rfl
 | .sl a o n c, u, h => by
  cases u <;> simp only [mV, Bool.and_eq_true, Nat.beq_eq] at h <;> first | (simp at h; done) | skip
  rw [pEq_ok h.1.1.1, h.1.1.2, h.1.2, h.2]; rfl
 | .vec a n, u, h => by
  cases u <;> simp only [mV, Bool.and_eq_true, Nat.beq_eq] at h <;> first | (simp at h; done) | skip
  rw [pEq_ok h.1, h.2]; rfl
 | .vt a o n, u, h => by
  cases u <;> simp only [mV, Bool.and_eq_true, Nat.beq_eq] at h <;> first | (simp at h; done) | skip
  rw [pEq_ok h.1.1, h.1.2, h.2]; rfl
 | .snil, u, h => by cases u <;> simp only [mV] at h <;> first | (simp at h; done) | rfl
 | .fn F p c, u, h => by
  cases u <;> simp only [mV, Bool.and_eq_true, Nat.beq_eq] at h <;> first | (simp at h; done) | skip
  simp only [V.γ, h.1.1, mL_ok t ρ h.1.2, mL_ok t ρ h.2]
 | .fnil, u, h => by cases u <;> simp only [mV] at h <;> first | (simp at h; done) | rfl
 | .agg l, u, h => by
  cases u <;> simp only [mV] at h <;> first | (simp at h; done) | skip
  simp only [V.γ, mL_ok t ρ h]
 | .tup l, u, h => by
  cases u <;> simp only [mV] at h <;> first | (simp at h; done) | skip
  simp only [V.γ, mL_ok t ρ h]
 | .fs a q, u, h => by
  cases u <;> simp only [mV, Bool.and_eq_true, Nat.beq_eq] at h <;> first | (simp at h; done) | skip
  obtain ⟨s1, s2, s3, s4, s5, s6, s7, s8⟩ := t.s q (by simpa using h.2)
  simp only [V.γ, ← h.1.2, s1, s2, s3, s4]
 | .fp a q o, u, h => by cases u <;> simp only [mV] at h <;> (simp at h; done)
 | .mp a, u, h => by
  cases u <;> simp only [mV] at h <;> first | (simp at h; done) | skip
  rw [pEq_ok h]; rfl
 | .mnil, u, h => by cases u <;> simp only [mV] at h <;> first | (simp at h; done) | rfl
theorem mL_ok {σ : Sg} (t : TrE σ E E') (ρ : Rho) : ∀ {l m : List V}, mL σ l m = true → γL E ρ m = γL E' ρ l
 | [], m, h => by cases m <;> simp only [mL] at h <;> first | (simp at h; done) | rfl
 | x :: r, m, h => by
  cases m <;> simp only [mL, Bool.and_eq_true] at h <;> first | (simp at h; done) | skip
  simp only [γL, mV_ok t ρ h.1, mL_ok t ρ h.2]
end
theorem mL_len {σ : Sg} : ∀ {l m : List V}, mL σ l m = true → m.length = l.length
 | [], m, h => by cases m <;> simp only [mL] at h <;> first | (simp at h; done) | rfl
 | x :: r, m, h => by
  cases m <;> simp only [mL, Bool.and_eq_true] at h <;> first | (simp at h; done) | skip
  simp [mL_len h.2]
theorem trAt_node {l r : Tr V} {d : Nat} {z : V} {i : Nat} : trAt (.node l r) (d + 1) z i = if even i = true then trAt l d z (i / 2) else trAt r d z (i / 2) := by
 show (Bool.rec (motive := fun _ => Option V) (r.get d (Nat.div i 2)) (l.get d (Nat.div i 2)) (even i)).getD z = _
 cases even i <;> rfl
theorem mTrN_at {σ : Sg} (t : TrE σ E E') (ρ : Rho) {z z' : V} (hz : mV σ z z' = true) : ∀ {a : Tr V} (d i : Nat), mTrN σ z' a = true → z'.γ E ρ = (trAt a d z i).γ E' ρ
 | .nil, d, i, h => by
  have : trAt (.nil : Tr V) d z i = z := by unfold trAt; rw [Tr.get_nil]; rfl
  rw [this]; exact mV_ok t ρ hz
 | .leaf x, d, i, h => by
  cases d with
  | zero => exact mV_ok t ρ h
  | succ d => exact mV_ok t ρ hz
 | .node l r, d, i, h => by
  simp only [mTrN, Bool.and_eq_true] at h
  cases d with
  | zero => exact mV_ok t ρ hz
  | succ d =>
   rw [trAt_node]
   split
   ·exact mTrN_at t ρ hz d _ h.1
   ·exact mTrN_at t ρ hz d _ h.2
theorem mTr_at {σ : Sg} (t : TrE σ E E') (ρ : Rho) {z z' : V} (hz : mV σ z z' = true) : ∀ {a b : Tr V} (_ : mTr σ z' a b = true) (d i : Nat), (trAt b d z' i).γ E ρ = (trAt a d z i).γ E' ρ
 | a, .nil, h, d, i => by
  have h : mTrN σ z' a = true := by cases a <;> exact h
  have : trAt (.nil : Tr V) d z' i = z' := by unfold trAt; rw [Tr.get_nil]; rfl
  rw [this]; exact mTrN_at t ρ hz d i h
 | .leaf x, .leaf y, h, d, i => by
  cases d with
  | zero => exact mV_ok t ρ h
  | succ d => exact mV_ok t ρ hz
 | .node l r, .node l' r', h, d, i => by
  simp only [mTr, Bool.and_eq_true] at h
  cases d with
  | zero => exact mV_ok t ρ hz
  | succ d =>
   rw [trAt_node, trAt_node]
   split
   ·exact mTr_at t ρ hz h.1 d _
   ·exact mTr_at t ρ hz h.2 d _
 | .nil, .leaf y, h, d, i => by simp [mTr] at h
 | .nil, .node l r, h, d, i => by simp [mTr] at h
 | .leaf x, .node l r, h, d, i => by simp [mTr] at h
 | .node l r, .leaf y, h, d, i => by simp [mTr] at h
theorem trBd_ok {n : Ev.P} : ∀ {a : Tr V} (d i : Nat) (v : V), trBdB n a = true → a.get d i = some v → v.bd n.toNat
 | .nil, d, i, v, h, hg => by cases d <;> cases hg
 | .leaf x, d, i, v, h, hg => by
  cases d with
  | zero => have hg : some x = some v := hg; cases hg; exact bdB_ok _ h
  | succ d => cases hg
 | .node l r, d, i, v, h, hg => by
  simp only [trBdB, Bool.and_eq_true] at h
  cases d with
  | zero => cases hg
  | succ d =>
   have hg : Bool.rec (motive := fun _ => Option V) (r.get d (Nat.div i 2)) (l.get d (Nat.div i 2)) (even i) = some v := hg
   cases he : even i with
   | true => rw [he] at hg; exact trBd_ok d _ v h.1 hg
   | false => rw [he] at hg; exact trBd_ok d _ v h.2 hg
theorem oBd_ok {n : Ev.P} {o : O} (h : oBdB n o = true) : o.bd n.toNat := by
 cases o with
 | cells t l => exact bdLB_ok l h
 | arr t m d z tr =>
  simp only [oBdB, Bool.and_eq_true] at h
  exact ⟨bdB_ok z h.1, fun i v _ hv => trBd_ok d i v h.2 hv⟩
 | vec t e m l => exact bdLB_ok l h
 | varr t m d z tr =>
  simp only [oBdB, Bool.and_eq_true] at h
  exact ⟨bdB_ok z h.1, fun i v _ hv => trBd_ok d i v h.2 hv⟩
 | row q z N I l => exact bdLB_ok l h
 | oa t q m d tr => exact fun i v _ hv => trBd_ok d i v h hv
 | map l =>
  intro p hp
  have := (allB_eq _ _).1 h p hp
  simp only [Bool.and_eq_true] at this
  exact ⟨bdB_ok _ this.1, bdB_ok _ this.2⟩
 | x o => cases h
 | dead => trivial
theorem mP_ok {σ : Sg} (t : TrE σ E E') (ρ : Rho) : ∀ {l m : List (V × V)}, mP σ l m = true → m.map (fun p => (p.1.γ E ρ, p.2.γ E ρ)) = l.map (fun p => (p.1.γ E' ρ, p.2.γ E' ρ))
 | [], m, h => by cases m <;> simp only [mP] at h <;> first | (simp at h; done) | rfl
 | (a, b) :: r, m, h => by
  cases m with
  | nil => simp [mP] at h
  | cons p s =>
   obtain ⟨c, d⟩ := p
   simp only [mP, Bool.and_eq_true] at h
   simp only [List.map_cons, mV_ok t ρ h.1.1, mV_ok t ρ h.1.2, mP_ok t ρ h.2]
theorem mO_live {σ : Sg} {o u : O} (h : mO σ o u = true) : u.live = o.live := by
 cases o <;> cases u <;> simp only [mO] at h <;> first | (simp at h; done) | rfl
theorem mO_mine {σ : Sg} {o u : O} (h : mO σ o u = true) : u.mine = o.mine := by
 cases o <;> cases u <;> simp only [mO] at h <;> first | (simp at h; done) | rfl
def RowEl (E : Env) (o : O) : Prop := match o with
 | .row q z N I l => l ≠ [] → I.den E = (E.s q).idx ∧ (E.s q).idx < (E.s q).len ∧ l.length = z ∧ ∀ ρ i, i < l.length → (E.s q).cs[(E.s q).off + (E.s q).idx * z + i]? = (l[i]?).map (V.γ E ρ)
 | _ => True
theorem mO_is {σ : Sg} (t : TrE σ E E') {ρ : Rho} {L : Pl} {hp : Array Obj} {o u : O} (h : mO σ o u = true) (hr : RowEl E' o) (hi : u.Is E ρ L hp) : o.Is E' ρ L hp := by
 cases o <;> cases u <;> simp only [mO, Bool.and_eq_true, Nat.beq_eq] at h <;> first | (simp at h; done) | skip
 ·-- cells
  obtain ⟨rfl, h2⟩ := h
  simp only [O.Is] at hi ⊢
  rw [← mL_ok t ρ h2]; exact hi
 ·-- arr
  obtain ⟨⟨⟨⟨rfl, rfl⟩, rfl⟩, h4⟩, h5⟩ := h
  obtain ⟨g1, cs, g2, g3, g4⟩ := hi
  exact ⟨g1, cs, g2, g3, fun i hi => by rw [g4 i hi, mTr_at t ρ h4 h5]⟩
 ·-- vec
  obtain ⟨⟨⟨rfl, rfl⟩, rfl⟩, h4⟩ := h
  obtain ⟨cs, g2, g3, g4, g5, g6, g7⟩ := hi
  have hl := mL_len h4
  have hγ := mL_ok t ρ h4
  refine ⟨cs, g2, g3, g4, g5, by rw [← hl]; exact g6, fun i hi => ?_⟩
  rw [g7 i (by rw [hl]; exact hi), ← γL_get, ← γL_get, hγ]
 ·-- varr
  obtain ⟨⟨⟨⟨rfl, rfl⟩, rfl⟩, h4⟩, h5⟩ := h
  obtain ⟨g1, cs, g2, g3, g4, g5, g6⟩ := hi
  exact ⟨g1, cs, g2, g3, g4, g5, fun i hi => by rw [g6 i hi, mTr_at t ρ h4 h5]⟩
 ·-- row
  rename_i q z M I l q' z' M' I' l'
  obtain ⟨⟨⟨rfl, rfl⟩, h3⟩, h4⟩ := h
  obtain ⟨g1, g2, g3, g4, g5⟩ := hi
  obtain ⟨s1, s2, s3, s4, s5, s6, s7, s8⟩ := t.s q (by simpa using h4)
  refine ⟨g1.trans s1.symm, by rw [s6, s7, s8]; exact g2, s5.trans g3, by rw [← mE_ok t h3, s3]; exact g4, fun hl => ?_⟩
  obtain ⟨r1, r2, r3, r4⟩ := hr hl
  exact ⟨r1, r2, r3, fun i hi => r4 ρ i hi⟩
 ·-- oa
  rename_i t1 q1 n1 d1 tr1 t2 q2 n2 d2 tr2
  obtain ⟨⟨⟨⟨⟨⟨rfl, rfl⟩, rfl⟩, h4⟩, h5⟩, h6⟩, h7⟩ := h
  have e1 : tr1 = .nil := by cases tr1 <;> first | rfl | (cases h4; done)
  have e2 : tr2 = .nil := by cases tr2 <;> first | rfl | (cases h5; done)
  subst e1 e2
  have h6 : 50 ≤ q1 := by simpa using h6
  have hr : σ (100000 + q1) = some (.lit (.ofNat q2)) := by
   unfold renB at h7
   split at h7
   ·rename_i n hn
    rw [iEq_eq] at h7
    rw [hn, of_decide_eq_true h7]
   ·cases h7
  have hcs := t.r q1 q2 h6 hr
  obtain ⟨g1, cs, g2, g3, g4, g5⟩ := hi
  refine ⟨g1, cs, g2, g3, by rw [hcs]; exact g4, fun i hi => ?_⟩
  rw [g5 i hi]
  unfold ovAt
  rw [Tr.get_nil, hcs]
 ·-- map
  obtain ⟨es, g1, g2, g3⟩ := hi
  exact ⟨es, g1, by rw [← mP_ok t ρ h]; exact g2, g3⟩
 ·trivial
theorem ptAll_ok {q : Ev.P → O → Bool} : ∀ (t : PT O) (f : Ev.P → Ev.P) (p : Ev.P) (o : O), ptAll q f t = true → t.get p = some o → q (f p) o = true
 | .e, f, p, o, h, hg => by rw [PT.get_e] at hg; cases hg
 | .n v l r, f, p, o, h, hg => by
  simp only [ptAll, Bool.and_eq_true] at h
  obtain ⟨⟨h1, h2⟩, h3⟩ := h
  cases p with
  | h =>
   have hg : v = some o := hg
   rw [hg] at h1; exact h1
  | o p => exact ptAll_ok l (fun p => f (.o p)) p o h2 hg
  | i p => exact ptAll_ok r (fun p => f (.i p)) p o h3 hg
def FrL (E : Env) (ρ : Rho) (n : Nat) (l : List (Ky × V)) (tmps : Array Value) : Prop := ∀ t v, (keyOf t, v) ∈ l → tmps[t]? = some (v.γ E ρ) ∧ v.bd n
theorem frOf_go : ∀ (l : List (Ky × V)) (fr : Fr) (k : Fr → Nat), lRec (fun fr k => k fr) (fun (p : Ky × V) _ ih fr k => pc p (fun q v => setF q fr v (fun fr => ih fr k))) l fr k = 0 → ∃ fr', k fr' = 0 ∧ ∀ q v, fr'.get q = some v → (q, v) ∈ l ∨ fr.get q = some v
 | [], fr, k, h => ⟨fr, h, fun q v hv => .inr hv⟩
 | (q0, v0) :: r, fr, k, h => by
  have h : setF q0 fr v0 (fun fr => lRec (fun fr k => k fr) (fun (p : Ky × V) _ ih fr k => pc p (fun q v => setF q fr v (fun fr => ih fr k))) r fr k) = 0 := h
  obtain ⟨fr1, h, g1, g2⟩ := setF_ok h
  obtain ⟨fr', h1, h2⟩ := frOf_go r fr1 k h
  refine ⟨fr', h1, fun q v hv => ?_⟩
  rcases h2 q v hv with h3 | h3
  ·exact .inl (List.mem_cons_of_mem _ h3)
  ·by_cases hq : q = q0
   ·subst hq
    rw [g1] at h3
    cases h3
    exact .inl (List.mem_cons_self ..)
   ·rw [g2 q hq] at h3; exact .inr h3
theorem frOf_ok {l : List (Ky × V)} {k : Fr → Nat} (h : frOf l k = 0) : ∃ fr, k fr = 0 ∧ ∀ q v, fr.get q = some v → (q, v) ∈ l := by
 obtain ⟨fr, h1, h2⟩ := frOf_go l .e k h
 refine ⟨fr, h1, fun q v hv => ?_⟩
 rcases h2 q v hv with h3 | h3
 ·exact h3
 ·rw [Fr.get_e] at h3; cases h3
structure Wd (w0 : World) (Lo : Ev.P) (ρ : Rho) (h : H) (w : World) : Prop where
 lo : h.lo = Lo
 os : w.os = w0.os
 tape : w.tape = w0.tape
 output : w.output = w0.output
 size : w0.heap.size ≤ w.heap.size
 keep : ∀ b, b < w0.heap.size → w.heap[b]? = w0.heap[b]?
 new : ∀ p o, h.t.get p = some o → o.live = true → Lo.toNat ≤ p.toNat → w0.heap.size ≤ (ρ p).b
theorem Wd.step {w0 : World} {lo : Ev.P} {ρ ρ' : Rho} {h h' : H} {w w' : World} (d : Wd w0 lo ρ h w) (x : Ext ρ h w ρ' h' w') : Wd w0 lo ρ' h' w' := by
 refine ⟨x.lo.trans d.lo, x.os.trans d.os, x.tape.trans d.tape, x.output.trans d.output, Nat.le_trans d.size x.size, fun b hb => ?_, fun p o hp hl hlo => ?_⟩
 ·rw [x.keep b (Nat.lt_of_lt_of_le hb d.size) (fun p o hp hl hlo => by have := d.new p o hp hl (by rw [← d.lo]; exact hlo); omega)]
  exact d.keep b hb
 ·by_cases hn : p.toNat < h.n.toNat
  ·obtain ⟨o', h1, h2⟩ := x.liv p o hn hp hl
   rw [x.agree p hn]; exact d.new p o' h1 h2 hlo
  ·rcases x.new p o (by omega) hp hl with h1 | ⟨q, o', h1, h2, h3, h4⟩
   ·exact Nat.le_trans d.size h1
   ·rw [← h4]; exact d.new q o' h1 h2 (by rw [← d.lo]; exact h3)
theorem match_ok {S : GS} {σ : Sg} {fr : Fr} {h : H} (hm : matchB S σ fr h = true) (t : TrE σ E E') (hrow : ∀ p o, S.h.t.get p = some o → RowEl E' o) {w0 : World} {lo : Ev.P} {ρ : Rho} {w : World} {tmps : Array Value} (d : Wd w0 lo ρ h w) (hs : Sat E ρ h w) (hf : FrOk E ρ h.n.toNat fr tmps) :
  Wd w0 lo ρ S.h w ∧ Sat E' ρ S.h w ∧ FrL E' ρ S.h.n.toNat S.fr tmps := by
 unfold matchB at hm
 rw [hc_eq, hc_eq] at hm
 simp only [Bool.and_eq_true] at hm
 obtain ⟨⟨hlo, hfr⟩, hh⟩ := hm
 have hlo := pEq_ok hlo
 have obj : ∀ p o, S.h.t.get p = some o → p.toNat < S.h.n.toNat ∧ o.bd S.h.n.toNat ∧ ∃ u, h.t.get p = some u ∧ mO σ o u = true := by
  intro p o hp
  have := ptAll_ok _ _ p o hh hp
  simp only [Bool.and_eq_true] at this
  obtain ⟨⟨h1, h2⟩, h3⟩ := this
  refine ⟨by simpa [pLt] using h1, oBd_ok h2, ?_⟩
  cases hu : h.t.get p with
  | none => rw [hu] at h3; cases h3
  | some u => rw [hu] at h3; exact ⟨u, rfl, h3⟩
 refine ⟨⟨hlo.trans d.lo, d.os, d.tape, d.output, d.size, d.keep, fun p o hp hl hl2 => ?_⟩, ⟨fun p o hp => ?_, fun p q o o' hp hq l1 l2 he => ?_, fun p o hp => ⟨(obj p o hp).1, (obj p o hp).2.1⟩⟩, fun t' v hv => ?_⟩
 ·obtain ⟨_, _, u, hu, hm⟩ := obj p o hp
  exact d.new p u hu (by rw [mO_live hm]; exact hl) hl2
 ·obtain ⟨_, _, u, hu, hm⟩ := obj p o hp
  exact mO_is t hm (hrow p o hp) (hs.obj p u hu)
 ·obtain ⟨_, _, u, hu, hm⟩ := obj p o hp
  obtain ⟨_, _, u', hu', hm'⟩ := obj q o' hq
  exact hs.inj p q u u' hu hu' (by rw [mO_mine hm]; exact l1) (by rw [mO_live hm']; exact l2) he
 ·have := allB_ok hfr _ hv
  simp only [Bool.and_eq_true] at this
  obtain ⟨h1, h2⟩ := this
  cases hu : fr.get (keyOf t') with
  | none => rw [hu] at h2; cases h2
  | some u =>
   rw [hu] at h2
   obtain ⟨h3, _⟩ := hf t' u hu
   exact ⟨by rw [h3, mV_ok t ρ h2], bdB_ok v h1⟩
def GoodE (E : Env) (P : Program) (N : Nat) (w0 : World) (lo : Ev.P) (ko : K2) (QQ : Exit → Act → World → Prop) : Prop :=
 ∀ ae fr h fa, ko ae fr h fa = 0 → FaOk E fa → ∀ ρ w (a : Act), Wd w0 lo ρ h w → Sat E ρ h w → FrOk E ρ h.n.toNat fr a.tmps → N ≤ a.tmps.size → a.defers = [] → QQ (AE.exit' ae) a w
def zPost (P : Program) : ZC → (Exit → Act → World → Prop) → Exit → Act → World → Prop
 | .hole, QQ => QQ
 | .seqL z b, QQ => zPost P z (Exit.then (b.wp P QQ) QQ)
 | .seqR _ z, QQ => zPost P z QQ
 | .block i z, QQ => zPost P z (Exit.inBlock i QQ)
theorem seq_good {Y : Ty} (hY : TyOk P Y) (hm : P.follows .mixedOrders = true) {dr : Nat → Option Dr} {g : Ctx} (hcall : CallOk E P g.call) {b : Code} (hB : drawB dr b = true) {w0 : World} {lo : Ev.P} {ko : K2} {QQ : Exit → Act → World → Prop} (h : GoodE E P N w0 lo ko QQ) :
  GoodE E P N w0 lo (kSeq (cCode Y N dr b) g ko) (Exit.then (b.wp P QQ) QQ) := by
 intro ae fr hh fa hk hfa ρ w a d hs hf hN hd
 cases ae with
 | normal =>
  obtain ⟨ae, fr1, h1, fa1, hk1, hfa1, r1⟩ := codeT_run hY hm hcall b fr hh fa ko hB hfa hk
  refine r1 ρ w a QQ hs hf hN hd ?_
  rintro a' w' ⟨ρ', f1, n1, d1, s1, x1⟩
  exact h ae fr1 h1 fa1 hk1 hfa1 ρ' w' a' (d.step x1) s1 f1 n1 d1
 | ret => exact h .ret fr hh fa hk hfa ρ w a d hs hf hN hd
 | exit i => exact h (.exit i) fr hh fa hk hfa ρ w a d hs hf hN hd
theorem blk_good {i : Nat} {w0 : World} {lo : Ev.P} {ko : K2} {QQ : Exit → Act → World → Prop} (h : GoodE E P N w0 lo ko QQ) : GoodE E P N w0 lo (kBlk i ko) (Exit.inBlock i QQ) := by
 intro ae fr hh fa hk hfa ρ w a d hs hf hN hd
 cases ae with
 | normal => exact h .normal fr hh fa hk hfa ρ w a d hs hf hN hd
 | ret => exact h .ret fr hh fa hk hfa ρ w a d hs hf hN hd
 | exit j =>
  have hk : bc (Nat.beq j i) (ko .normal fr hh fa) (ko (.exit j) fr hh fa) = 0 := hk
  show Exit.inBlock i QQ (.exit j) a w
  cases hj : Nat.beq j i with
  | true =>
   rw [hj] at hk
   have hj : j = i := by simpa using hj
   simp only [Exit.inBlock, hj, if_true]
   exact h .normal fr hh fa hk hfa ρ w a d hs hf hN hd
  | false =>
   rw [hj] at hk
   have hj : ¬ j = i := by intro e; subst e; simp at hj
   simp only [Exit.inBlock, hj, if_false]
   exact h (.exit j) fr hh fa hk hfa ρ w a d hs hf hN hd
theorem zOut_good {Y : Ty} (hY : TyOk P Y) (hm : P.follows .mixedOrders = true) {dr : Nat → Option Dr} {g : Ctx} (hcall : CallOk E P g.call) {w0 : World} {lo : Ev.P} : ∀ (z : ZC) (ko : K2) (QQ : Exit → Act → World → Prop), z.drB dr = true → GoodE E P N w0 lo ko QQ → GoodE E P N w0 lo (zOut (zGo Y N dr z) g ko) (zPost P z QQ)
 | .hole, ko, QQ, hB, h => h
 | .seqL z b, ko, QQ, hB, h => by
  simp only [ZC.drB, Bool.and_eq_true] at hB
  exact zOut_good hY hm hcall z _ _ hB.1 (seq_good hY hm hcall hB.2 h)
 | .seqR a z, ko, QQ, hB, h => by
  simp only [ZC.drB, Bool.and_eq_true] at hB
  exact zOut_good hY hm hcall z ko QQ hB.2 h
 | .block i z, ko, QQ, hB, h => zOut_good hY hm hcall z _ _ hB (blk_good h)
theorem zIn_run {Y : Ty} (hY : TyOk P Y) (hm : P.follows .mixedOrders = true) {dr : Nat → Option Dr} {g : Ctx} (hcall : CallOk E P g.call) {w0 : World} {lo : Ev.P} {x : Code} {k : K1} : ∀ (z : ZC) (fr : Fr) (h : H) (fa : Fa) (ko : K2) (QQ : Exit → Act → World → Prop), z.drB dr = true → zIn (zGo Y N dr z) g fr h fa k ko = 0 → FaOk E fa → GoodE E P N w0 lo ko QQ →
  (∀ fr' h' fa', k fr' h' fa' = 0 → FaOk E fa' → ∀ ρ' w' (a' : Act), Wd w0 lo ρ' h' w' → Sat E ρ' h' w' → FrOk E ρ' h'.n.toNat fr' a'.tmps → N ≤ a'.tmps.size → a'.defers = [] → x.wp P (zPost P z QQ) a' w') →
  ∀ ρ w (a : Act), Wd w0 lo ρ h w → Sat E ρ h w → FrOk E ρ h.n.toNat fr a.tmps → N ≤ a.tmps.size → a.defers = [] → (z.plug x).wp P QQ a w
 | .hole, fr, h, fa, ko, QQ, hB, hk, hfa, hko, hx, ρ, w, a, d, hs, hf, hN, hd => hx fr h fa hk hfa ρ w a d hs hf hN hd
 | .seqL z b, fr, h, fa, ko, QQ, hB, hk, hfa, hko, hx, ρ, w, a, d, hs, hf, hN, hd => by
  simp only [ZC.drB, Bool.and_eq_true] at hB
  exact wp_seq (zIn_run hY hm hcall z fr h fa _ _ hB.1 hk hfa (seq_good hY hm hcall hB.2 hko) hx ρ w a d hs hf hN hd)
 | .seqR b z, fr, h, fa, ko, QQ, hB, hk, hfa, hko, hx, ρ, w, a, d, hs, hf, hN, hd => by
  simp only [ZC.drB, Bool.and_eq_true] at hB
  obtain ⟨ae, fr1, h1, fa1, hk1, hfa1, r1⟩ := codeT_run hY hm hcall b fr h fa _ hB.1 hfa hk
  refine wp_seq (r1 ρ w a _ hs hf hN hd ?_)
  rintro a' w' ⟨ρ', f1, n1, d1, s1, x1⟩
  cases ae with
  | normal => exact zIn_run hY hm hcall z fr1 h1 fa1 ko QQ hB.2 hk1 hfa1 hko hx ρ' w' a' (d.step x1) s1 f1 n1 d1
  | ret => exact hko .ret fr1 h1 fa1 hk1 hfa1 ρ' w' a' (d.step x1) s1 f1 n1 d1
  | exit i => exact hko (.exit i) fr1 h1 fa1 hk1 hfa1 ρ' w' a' (d.step x1) s1 f1 n1 d1
 | .block i z, fr, h, fa, ko, QQ, hB, hk, hfa, hko, hx, ρ, w, a, d, hs, hf, hN, hd =>
  wp_block (zIn_run hY hm hcall z fr h fa _ _ hB hk hfa (blk_good hko) hx ρ w a d hs hf hN hd)
theorem rounds_mono {x : Code} {QQ : Exit → Act → World → Prop} : ∀ {n m : Nat} (a : Act) (w : World), n ≤ m → Code.rounds P x QQ n a w → Code.rounds P x QQ m a w
 | 0, m, a, w, h, hr => hr.elim
 | n + 1, 0, a, w, h, hr => by omega
 | n + 1, m + 1, a, w, h, hr => by
  rw [rounds_succ] at hr ⊢
  refine Go.wp_mono hr fun e a' w' hq => ?_
  cases e with
  | normal => exact rounds_mono a' w' (by omega) hq
  | _ => exact hq
theorem nextK_ok {st : Nat → GS} {nx : List (Nat × Sg)} {fr : Fr} {h : H} (hk : nextK st nx fr h = 0) : nx ≠ [] ∧ ∀ p ∈ nx, matchB (st p.1) p.2 fr h = true := by
 cases nx with
 | nil => exact absurd (show (1 : Nat) = 0 from hk) (by simp)
 | cons p r =>
  obtain ⟨h1, _⟩ := bc_ok (show bc (allB (fun p : Nat × Sg => matchB (st p.1) p.2 fr h) (p :: r)) 0 1 = 0 from hk) (by simp)
  exact ⟨by simp, allB_ok h1⟩
def Leads (st : Nat → GS) (Inv : Nat → Nat → Env → Prop) (E : Env) (nx : List (Nat × Sg)) (m : Nat) : Prop :=
 nx ≠ [] → ∃ j' σ m' E', (j', σ) ∈ nx ∧ m' < m ∧ Inv m' j' E' ∧ TrE σ E E' ∧ ∀ p o, (st j').h.t.get p = some o → RowEl E' o
def koB (rs : List IR) : K2 := fun e fr h fa => aeGo e (resT rs fr h (fun v => bc (V.beq v (.b true)) 0 1) 1) (resT rs fr h (fun v => bc (V.beq v (.b true)) 0 1) 1) (fun _ => 1)
theorem koB_good {Y : Ty} (hY : TyOk P Y) {f : Func} {rs : List IR} (hrs : cRes Y f.results.toList = some rs) (w0 : World) (lo : Ev.P) (E : Env) :
  GoodE E P N w0 lo (koB rs) (bodyPost P f (fun e w' => e = .returned (.bool true) ∧ Below w0.heap.size w0 w')) := by
 intro ae fr h fa hk hfa ρ w a d hs hf hN hd
 have fin : resT rs fr h (fun v => bc (V.beq v (.b true)) 0 1) 1 = 0 → bodyPost P f (fun e w' => e = .returned (.bool true) ∧ Below w0.heap.size w0 w') .ret a w := by
  intro hr
  obtain ⟨vs, hvs, hr⟩ := oc_ok (show oc (resVs fr h rs) _ _ = 0 from hr) (by simp)
  obtain ⟨e1, b1⟩ := results_run hY hrs hs hf hvs
  have hv : vs = [.b true] := by
   match vs, hr with
   | [], hr =>
    obtain ⟨h1, _⟩ := bc_ok (show bc (V.beq (.tup []) (.b true)) 0 1 = 0 from hr) (by simp)
    cases V.beq_ok h1
   | [v], hr =>
    obtain ⟨h1, _⟩ := bc_ok (show bc (V.beq v (.b true)) 0 1 = 0 from hr) (by simp)
    rw [V.beq_ok h1]
   | x :: y :: r, hr =>
    obtain ⟨h1, _⟩ := bc_ok (show bc (V.beq (.tup (x :: y :: r)) (.b true)) 0 1 = 0 from hr) (by simp)
    cases V.beq_ok h1
  subst hv
  refine ⟨hd, .bool true, ?_, rfl, d.os, d.tape, d.output, d.size, d.keep⟩
  simpa [γL, V.γ] using e1
 cases ae with
 | normal => exact fin hk
 | ret => exact fin hk
 | exit i => exact absurd (show (1 : Nat) = 0 from hk) (by simp)
end Go.Ev
end
/-
 Laws that loop: the frame around the rule.
-/
set_option linter.unusedSimpArgs false
set_option linter.unusedVariables false
noncomputable section
namespace Go.Ev
open Go Go.RowKit
variable {E : Env} {P : Program}
def zipL : Code → Option (ZC × Code)
 | .seq a b => match zipL a with
  | some (z, x) => some (.seqL z b, x)
  | none => match zipL b with
   | some (z, x) => some (.seqR a z, x)
   | none => none
 | .block i a => match zipL a with
  | some (z, x) => some (.block i z, x)
  | none => none
 | .loop x => some (.hole, x)
 | _ => none
theorem zipL_ok : ∀ {c : Code} {z : ZC} {x : Code}, zipL c = some (z, x) → c = z.plug (.loop x)
 | .seq a b, z, x, h => by
  simp only [zipL] at h
  split at h
  ·rename_i z' x' h1
   simp at h
   obtain ⟨rfl, rfl⟩ := h
   rw [zipL_ok h1]; rfl
  ·split at h
   ·rename_i z' x' h1
    simp at h
    obtain ⟨rfl, rfl⟩ := h
    rw [zipL_ok h1]; rfl
   ·simp at h
 | .block i a, z, x, h => by
  simp only [zipL] at h
  split at h
  ·rename_i z' x' h1
   simp at h
   obtain ⟨rfl, rfl⟩ := h
   rw [zipL_ok h1]; rfl
  ·simp at h
 | .loop a, z, x, h => by
  simp [zipL] at h
  obtain ⟨rfl, rfl⟩ := h
  rfl
 | .skip, _, _, h => by simp [zipL] at h
 | .region .., _, _, h => by simp [zipL] at h
 | .cond .., _, _, h => by simp [zipL] at h
 | .rangeFunc .., _, _, h => by simp [zipL] at h
 | .exit .., _, _, h => by simp [zipL] at h
 | .scope .., _, _, h => by simp [zipL] at h
 | .label .., _, _, h => by simp [zipL] at h
 | .goto .., _, _, h => by simp [zipL] at h
 | .ret, _, _, h => by simp [zipL] at h
 | .refuse .., _, _, h => by simp [zipL] at h
theorem plug_drB {dr : Nat → Option Dr} {x : Code} : ∀ {z : ZC}, drawB dr (z.plug (.loop x)) = true → z.drB dr = true ∧ drawB dr x = true
 | .hole, h => ⟨rfl, h⟩
 | .seqL z b, h => by
  simp only [ZC.plug, drawB, Bool.and_eq_true] at h
  obtain ⟨h1, h2⟩ := plug_drB h.1
  exact ⟨by simp only [ZC.drB, Bool.and_eq_true]; exact ⟨h1, h.2⟩, h2⟩
 | .seqR a z, h => by
  simp only [ZC.plug, drawB, Bool.and_eq_true] at h
  obtain ⟨h1, h2⟩ := plug_drB h.2
  exact ⟨by simp only [ZC.drB, Bool.and_eq_true]; exact ⟨h.1, h1⟩, h2⟩
 | .block i z, h => plug_drB (z := z) h
structure CutX where
 z : ZI
 x : IC
 rs : List IR
def cutX (Y : Ty) (dr : Nat → Option Dr) (f : Func) : Option CutX := match f.body, cRes Y f.results.toList with
 | some c, some rs => match zipL c with
  | some (z, x) => some ⟨zGo Y f.ntmps dr z, cCode Y f.ntmps dr x, rs⟩
  | none => none
 | _, _ => none
def anewS (σ : Sg) (E : Env) (q : Nat) : Row := if q < 50 then E.s q else match σ (100000 + q) with
 | some (.lit (.ofNat q')) => E.s q'
 | _ => E.s q
def anew (σ : Sg) (E : Env) : Env := ⟨fun i => match σ i with
 | some s => s.den E
 | none => 0, E.b, anewS σ E⟩
end Go.Ev
end
/-
 Functions that are known by what they do to one thing; a chip's lines.
-/
set_option linter.unusedSimpArgs false
set_option linter.unusedVariables false
noncomputable section
namespace Go.Ev
open Go
variable {E : Env} {P : Program}
end Go.Ev
end
