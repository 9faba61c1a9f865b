/-
  Numbers: each binary operation's run.
-/
import Derived.Test.YtapeacnagpphjaaGreatEvD
set_option linter.unusedSimpArgs false
set_option linter.unusedVariables false
noncomputable section
namespace Go.Ev
open Go
variable {E : Env} {P : Program} {w : World}

theorem kEq_eq {a b : IntKind} (h : kEq a b = true) : a = b := by
  cases a <;> cases b <;> first | rfl | (exact absurd h (by decide))
theorem wrap_id {k : IntKind} {m : Nat} (h : Nat.blt m (topOf k) = true) : k.wrap (m : Int) = m := by
  have h : m < topOf k := by simpa using h
  cases k <;> simp [topOf] at h
  · exact IntWalk.i64_in _ (by omega)
  · rw [IntKind.wrap_u64]; omega
theorem wrapF_eq (k : IntKind) (n : Int) : wrapF k n = k.wrap n := by
  cases n with
  | negSucc m => rfl
  | ofNat m =>
    have e : wrapF k (.ofNat m) = bc (Nat.blt m (topOf k)) (.ofNat m) (k.wrap (.ofNat m)) := rfl
    rw [e, bc_eq]
    split
    · rename_i h; exact (wrap_id h).symm
    · rfl
theorem iEq_eq (a b : Int) : iEq a b = decide (a = b) := by
  cases a <;> cases b
  · rename_i a b
    show Nat.beq a b = _
    rw [Bool.eq_iff_iff]; simp; exact ⟨fun h => by rw [h], fun h => by omega⟩
  · rename_i a b
    show false = _
    simp
  · rename_i a b
    show false = _
    simp
  · rename_i a b
    show Nat.beq a b = _
    rw [Bool.eq_iff_iff]; simp
theorem iLt_eq (a b : Int) : iLt a b = decide (a < b) := by
  cases a <;> cases b
  · rename_i a b
    show Nat.blt a b = _
    rw [Bool.eq_iff_iff]; simp
  · rename_i a b
    show false = _
    rw [Bool.eq_iff_iff]; simp; omega
  · rename_i a b
    show true = _
    rw [Bool.eq_iff_iff]; simp; omega
  · rename_i a b
    show Nat.blt b a = _
    rw [Bool.eq_iff_iff]; simp; omega
theorem iLe_eq (a b : Int) : iLe a b = decide (a ≤ b) := by
  cases a <;> cases b
  · rename_i a b
    show Nat.ble a b = _
    rw [Bool.eq_iff_iff]; simp
  · rename_i a b
    show false = _
    rw [Bool.eq_iff_iff]; simp; omega
  · rename_i a b
    show true = _
    rw [Bool.eq_iff_iff]; simp; omega
  · rename_i a b
    show Nat.ble b a = _
    rw [Bool.eq_iff_iff]; simp; omega

theorem top_bits {k : IntKind} {m : Nat} (h : Nat.blt m (topOf k) = true) : k.bits = 64 ∧ m < 2 ^ 64 := by
  have h : m < topOf k := by simpa using h
  cases k <;> simp [topOf] at h <;> exact ⟨rfl, by omega⟩
theorem top_pow {k : IntKind} {m : Nat} (h : Nat.blt m (topOf k) = true) : ∃ e, topOf k = 2 ^ e := by
  have h : m < topOf k := by simpa using h
  cases k <;> simp [topOf] at h
  · exact ⟨63, rfl⟩
  · exact ⟨64, rfl⟩
theorem bitF_eq {k : IntKind} {g : Nat → Nat → Nat} {f : BitVec k.bits → BitVec k.bits → BitVec k.bits}
    (hg : ∀ a b e, a < 2 ^ e → b < 2 ^ e → g a b < 2 ^ e) (hf : ∀ a b : Nat, a < 2 ^ k.bits → b < 2 ^ k.bits → (f (BitVec.ofNat k.bits a) (BitVec.ofNat k.bits b)).toNat = g a b) (x y : Int) : bitF k g f x y = bitI k f x y := by
  cases x with
  | negSucc a => rfl
  | ofNat a =>
    cases y with
    | negSucc b => rfl
    | ofNat b =>
      have e : bitF k g f (.ofNat a) (.ofNat b) = bc (Nat.blt a (topOf k)) (bc (Nat.blt b (topOf k)) (.ofNat (g a b)) (bitI k f (.ofNat a) (.ofNat b))) (bitI k f (.ofNat a) (.ofNat b)) := rfl
      rw [e, bc_eq]
      split
      · rename_i ha
        rw [bc_eq]
        split
        · rename_i hb
          obtain ⟨h1, h2⟩ := top_bits ha
          obtain ⟨_, h3⟩ := top_bits hb
          obtain ⟨e, he⟩ := top_pow ha
          have ha' : a < topOf k := by simpa using ha
          have hb' : b < topOf k := by simpa using hb
          have hlt : Nat.blt (g a b) (topOf k) = true := by
            simp; rw [he] at ha' hb' ⊢; exact hg a b e ha' hb'
          have := hf a b (by rw [h1]; exact h2) (by rw [h1]; exact h3)
          have e1 : BitVec.ofInt k.bits (Int.ofNat a) = BitVec.ofNat k.bits a := BitVec.ofInt_natCast ..
          have e2 : BitVec.ofInt k.bits (Int.ofNat b) = BitVec.ofNat k.bits b := BitVec.ofInt_natCast ..
          unfold bitI
          rw [e1, e2, this]
          exact (wrap_id hlt).symm
        · rfl
      · rfl
theorem toNat_ofNat_lt {n a : Nat} (h : a < 2 ^ n) : (BitVec.ofNat n a).toNat = a := by simp [Nat.mod_eq_of_lt h]
theorem fAnd_eq (k : IntKind) (a b : Int) : fAnd k a b = bitI k (fun a b => a &&& b) a b :=
  bitF_eq (fun a b e ha hb => Nat.and_lt_two_pow a hb) (fun a b ha hb => by rw [BitVec.toNat_and, toNat_ofNat_lt ha, toNat_ofNat_lt hb] <;> rfl) a b
theorem fOr_eq (k : IntKind) (a b : Int) : fOr k a b = bitI k (fun a b => a ||| b) a b :=
  bitF_eq (fun a b e ha hb => Nat.or_lt_two_pow ha hb) (fun a b ha hb => by rw [BitVec.toNat_or, toNat_ofNat_lt ha, toNat_ofNat_lt hb] <;> rfl) a b
theorem fXor_eq (k : IntKind) (a b : Int) : fXor k a b = bitI k (fun a b => a ^^^ b) a b :=
  bitF_eq (fun a b e ha hb => Nat.xor_lt_two_pow ha hb) (fun a b ha hb => by rw [BitVec.toNat_xor, toNat_ofNat_lt ha, toNat_ofNat_lt hb] <;> rfl) a b
theorem andNot_xor {n : Nat} (x y : BitVec n) : x &&& ~~~y = x ^^^ (x &&& y) := by
  apply BitVec.eq_of_getLsbD_eq
  intro i hi
  simp only [BitVec.getLsbD_and, BitVec.getLsbD_not, BitVec.getLsbD_xor, hi, decide_true, Bool.true_and]
  cases x.getLsbD i <;> cases y.getLsbD i <;> rfl
theorem fAndNot_eq (k : IntKind) (a b : Int) : fAndNot k a b = bitI k (fun a b => a &&& ~~~b) a b :=
  bitF_eq (fun a b e ha hb => Nat.xor_lt_two_pow ha (Nat.and_lt_two_pow a hb)) (fun a b ha hb => by rw [andNot_xor, BitVec.toNat_xor, BitVec.toNat_and, toNat_ofNat_lt ha, toNat_ofNat_lt hb] <;> rfl) a b
theorem fAdd_eq (k : IntKind) (a b : Int) : fAdd k a b = k.wrap (a + b) := wrapF_eq _ _
theorem fSub_eq (k : IntKind) (a b : Int) : fSub k a b = k.wrap (a - b) := wrapF_eq _ _
theorem fMul_eq (k : IntKind) (a b : Int) : fMul k a b = k.wrap (a * b) := wrapF_eq _ _
theorem fQuo_eq (k : IntKind) (a b : Int) : fQuo k a b = k.wrap (a.tdiv b) := wrapF_eq _ _
theorem fShl_eq (k : IntKind) (x n : Int) : fShl k x n = k.wrap (x * 2 ^ (min n.toNat k.bits)) := by
  unfold fShl
  rw [wrapF_eq]
  congr 1
theorem fShr_eq (k : IntKind) (x n : Int) : fShr k x n = x.fdiv (2 ^ (min n.toNat k.bits)) := by
  cases x with
  | negSucc m => rfl
  | ofNat m =>
    show ((m / 2 ^ (min n.toNat k.bits) : Nat) : Int) = _
    rw [Int.fdiv_eq_ediv_of_nonneg _ (by exact Int.le_of_lt (Int.pow_pos (by omega)))]
    rw [Int.natCast_ediv, Int.natCast_pow] <;> rfl

/-- what the model reckons -/
def ArOk (P : Program) (w : World) (o : BinOp) (t : TypeId) (C : Int → Prop) : Prop := ∀ k k' a b, (o = .shl ∨ o = .shr ∨ k = k') → C b → (binOp o t (.int k a) (.int k' b)).run P w = .ok (.int k (arS o k a b)) w
theorem arOk_add (t : TypeId) : ArOk P w .add t (fun _ => True) := fun k k' a b h _ => by
  have h : k = k' := by simpa using h
  subst h; simp [binOp, Op.intArith, arS, arI, wrapF_eq]
theorem arOk_sub (t : TypeId) : ArOk P w .sub t (fun _ => True) := fun k k' a b h _ => by
  have h : k = k' := by simpa using h
  subst h; simp [binOp, Op.intArith, arS, arI, wrapF_eq]
theorem arOk_mul (t : TypeId) : ArOk P w .mul t (fun _ => True) := fun k k' a b h _ => by
  have h : k = k' := by simpa using h
  subst h; simp [binOp, Op.intArith, arS, arI, wrapF_eq]
theorem arOk_and (t : TypeId) : ArOk P w .and t (fun _ => True) := fun k k' a b h _ => by
  have h : k = k' := by simpa using h
  subst h
  have e : arS .and k a b = fAnd k a b := rfl
  rw [e, fAnd_eq]
  simp only [binOp, Op.intBits, ne_eq, not_true_eq_false, if_false, Sem.run_pure, bitI]
theorem arOk_or (t : TypeId) : ArOk P w .or t (fun _ => True) := fun k k' a b h _ => by
  have h : k = k' := by simpa using h
  subst h
  have e : arS .or k a b = fOr k a b := rfl
  rw [e, fOr_eq]
  simp only [binOp, Op.intBits, ne_eq, not_true_eq_false, if_false, Sem.run_pure, bitI]
theorem arOk_xor (t : TypeId) : ArOk P w .xor t (fun _ => True) := fun k k' a b h _ => by
  have h : k = k' := by simpa using h
  subst h
  have e : arS .xor k a b = fXor k a b := rfl
  rw [e, fXor_eq]
  simp only [binOp, Op.intBits, ne_eq, not_true_eq_false, if_false, Sem.run_pure, bitI]
theorem arOk_andNot (t : TypeId) : ArOk P w .andNot t (fun _ => True) := fun k k' a b h _ => by
  have h : k = k' := by simpa using h
  subst h
  have e : arS .andNot k a b = fAndNot k a b := rfl
  rw [e, fAndNot_eq]
  simp only [binOp, Op.intBits, ne_eq, not_true_eq_false, if_false, Sem.run_pure, bitI]
theorem arOk_quo (t : TypeId) : ArOk P w .quo t (fun b => b ≠ 0) := fun k k' a b h hb => by
  have h : k = k' := by simpa using h
  subst h; simp [binOp, Op.intDiv, arS, arI, dvI, wrapF_eq, hb]
theorem arOk_rem (t : TypeId) : ArOk P w .rem t (fun b => b ≠ 0) := fun k k' a b h hb => by
  have h : k = k' := by simpa using h
  subst h; simp [binOp, Op.intDiv, arS, arI, dvI, wrapF_eq, hb]
theorem arOk_shl (t : TypeId) : ArOk P w .shl t (fun b => 0 ≤ b) := fun k k' a b h hb => by
  have hb : ¬ b < 0 := by omega
  simp [binOp, Op.shift, arS, arI, dvI, shI, wrapF_eq, hb]
theorem arOk_shr (t : TypeId) : ArOk P w .shr t (fun b => 0 ≤ b) := fun k k' a b h hb => by
  have hb : ¬ b < 0 := by omega
  simp [binOp, Op.shift, arS, arI, dvI, shI, wrapF_eq, hb]

theorem toE_γ {x : V} {k : IntKind} {e : SE} (h : toE x = some (k, e)) (ρ : Rho) : x.γ E ρ = .int k (e.den E) := by
  cases x <;> simp [toE] at h
  · obtain ⟨rfl, rfl⟩ := h; rfl
  · obtain ⟨rfl, rfl⟩ := h; rfl
theorem mmS_ok {mx : Bool} {x y v : V} (h : mmS mx x y = some v) : ∃ t a b, (∀ E ρ, x.γ E ρ = .int t (a.den E)) ∧ (∀ E ρ, y.γ E ρ = .int t (b.den E)) ∧ v = .si t (.mm mx a b) := by
  unfold mmS at h
  split at h
  · rename_i k a k' b hx hy
    cases hk : kEq k k' with
    | false => rw [hk] at h; cases h
    | true =>
      rw [hk] at h
      have h : some (V.si k (.mm mx a b)) = some v := h
      cases h
      have := kEq_eq hk
      subst this
      exact ⟨k, a, b, fun E ρ => toE_γ hx ρ, fun E ρ => toE_γ hy ρ, rfl⟩
  · cases h
theorem bSym_run {o : BinOp} {t : TypeId} (ho : ArOk P w o t (fun _ => True)) {x y v : V} (h : bSym o x y = some v) (ρ : Rho) : (binOp o t (x.γ E ρ) (y.γ E ρ)).run P w = .ok (v.γ E ρ) w ∧ v.bd 0 := by
  unfold bSym at h
  split at h
  · rename_i k a k' b hx hy
    rw [bc_eq] at h
    split at h
    · rename_i hk
      obtain rfl := kEq_eq hk
      simp at h; subst h
      rw [toE_γ hx, toE_γ hy, ho _ _ _ _ (.inr (.inr rfl)) trivial]
      exact ⟨rfl, trivial⟩
    · simp at h
  · simp at h
theorem vInt_cases {σ : Type} (x : V) (f : IntKind → Int → σ) (e : σ) : (∃ k n, x = .i k n ∧ vInt x f e = f k n) ∨ vInt x f e = e := by
  cases x <;> first | exact .inr rfl | exact .inl ⟨_, _, rfl, rfl⟩
theorem bAr_run {o : BinOp} {t : TypeId} {f : IntKind → Int → Int → Int} (ho : ArOk P w o t (fun _ => True)) (hf : ∀ k a b, f k a b = arS o k a b) {q : QK} {x y v : V} (h : bAr o f q x y = some v) (ρ : Rho) :
    (binOp o t (x.γ E ρ) (y.γ E ρ)).run P w = .ok (v.γ E ρ) w ∧ v.bd 0 := by
  unfold bAr at h
  rcases vInt_cases x (fun k a => vInt y (fun k' b => bc (kEq k k') (some (.i k (f k a b))) none) (bSym o x y)) (bSym o x y) with ⟨k, a, rfl, e⟩ | e
  · rw [e] at h
    rcases vInt_cases y (fun k' b => bc (kEq k k') (some (V.i k (f k a b))) none) (bSym o (.i k a) y) with ⟨k', b, rfl, e⟩ | e
    · rw [e, bc_eq] at h
      split at h
      · rename_i hk
        obtain rfl := kEq_eq hk
        simp at h; subst h
        simp only [V.γ]
        rw [ho _ _ _ _ (.inr (.inr rfl)) trivial, hf]
        exact ⟨rfl, trivial⟩
      · simp at h
    · rw [e] at h; exact bSym_run ho h ρ
  · rw [e] at h; exact bSym_run ho h ρ
theorem bDvS_run {o : BinOp} {t : TypeId} (ho : ArOk P w o t (fun b => b ≠ 0)) {x y v : V} (h : bDvS o x y = some v) (ρ : Rho) : (binOp o t (x.γ E ρ) (y.γ E ρ)).run P w = .ok (v.γ E ρ) w ∧ v.bd 0 := by
  unfold bDvS at h
  split at h
  · rename_i k a k' b hx
    rw [bc_eq] at h
    split at h
    · rename_i hk
      obtain rfl := kEq_eq hk
      rw [bc_eq] at h
      split at h
      · simp at h
      · rename_i hb
        rw [iEq_eq] at hb
        simp at h; subst h
        rw [toE_γ hx]
        simp only [V.γ]
        rw [ho _ _ _ _ (.inr (.inr rfl)) (by simpa using hb)]
        exact ⟨rfl, trivial⟩
    · simp at h
  · simp at h
theorem bDv_run {o : BinOp} {t : TypeId} {f : IntKind → Int → Int → Int} (ho : ArOk P w o t (fun b => b ≠ 0)) (hf : ∀ k a b, f k a b = arS o k a b) {q : QK} {x y v : V} (h : bDv o f q x y = some v) (ρ : Rho) :
    (binOp o t (x.γ E ρ) (y.γ E ρ)).run P w = .ok (v.γ E ρ) w ∧ v.bd 0 := by
  unfold bDv at h
  rcases vInt_cases x (fun k a => vInt y (fun k' b => bc (kEq k k') (bc (iEq b 0) none (some (.i k (f k a b)))) none) (bDvS o x y)) (bDvS o x y) with ⟨k, a, rfl, e⟩ | e
  · rw [e] at h
    rcases vInt_cases y (fun k' b => bc (kEq k k') (bc (iEq b 0) none (some (V.i k (f k a b)))) none) (bDvS o (.i k a) y) with ⟨k', b, rfl, e⟩ | e
    · rw [e, bc_eq] at h
      split at h
      · rename_i hk
        obtain rfl := kEq_eq hk
        rw [bc_eq] at h
        split at h
        · simp at h
        · rename_i hb
          rw [iEq_eq] at hb
          simp at h; subst h
          simp only [V.γ]
          rw [ho _ _ _ _ (.inr (.inr rfl)) (by simpa using hb), hf]
          exact ⟨rfl, trivial⟩
      · simp at h
    · rw [e] at h; exact bDvS_run ho h ρ
  · rw [e] at h; exact bDvS_run ho h ρ
theorem bShS_run {o : BinOp} (hs : o = .shl ∨ o = .shr) {t : TypeId} (ho : ArOk P w o t (fun b => 0 ≤ b)) {x y v : V} (h : bShS o x y = some v) (ρ : Rho) : (binOp o t (x.γ E ρ) (y.γ E ρ)).run P w = .ok (v.γ E ρ) w ∧ v.bd 0 := by
  unfold bShS at h
  split at h
  · rename_i k a k' b hx
    rw [bc_eq] at h
    split at h
    · rename_i hb
      rw [iLe_eq] at hb
      simp at h; subst h
      rw [toE_γ hx]
      simp only [V.γ]
      rw [ho _ _ _ _ (by rcases hs with h | h <;> simp [h]) (by simpa using hb)]
      exact ⟨rfl, trivial⟩
    · simp at h
  · simp at h
theorem bSh_run {o : BinOp} (hs : o = .shl ∨ o = .shr) {t : TypeId} {f : IntKind → Int → Int → Int} (ho : ArOk P w o t (fun b => 0 ≤ b)) (hf : ∀ k a b, f k a b = arS o k a b) {q : QK} {x y v : V} (h : bSh o f q x y = some v) (ρ : Rho) :
    (binOp o t (x.γ E ρ) (y.γ E ρ)).run P w = .ok (v.γ E ρ) w ∧ v.bd 0 := by
  unfold bSh at h
  rcases vInt_cases x (fun k a => vInt y (fun _ b => bc (iLe 0 b) (some (.i k (f k a b))) none) (bShS o x y)) (bShS o x y) with ⟨k, a, rfl, e⟩ | e
  · rw [e] at h
    rcases vInt_cases y (fun _ b => bc (iLe 0 b) (some (V.i k (f k a b))) none) (bShS o (.i k a) y) with ⟨k', b, rfl, e⟩ | e
    · rw [e, bc_eq] at h
      split at h
      · rename_i hb
        rw [iLe_eq] at hb
        simp at h; subst h
        simp only [V.γ]
        rw [ho _ _ _ _ (by rcases hs with h | h <;> simp [h]) (by simpa using hb), hf]
        exact ⟨rfl, trivial⟩
      · simp at h
    · rw [e] at h; exact bShS_run hs ho h ρ
  · rw [e] at h; exact bShS_run hs ho h ρ
def CmOk (P : Program) (w : World) (o : BinOp) (t : TypeId) : Prop := ∀ k a b, (binOp o t (.int k a) (.int k b)).run P w = .ok (.bool ((cmpI o a b).getD false)) w
theorem cmOk {o : BinOp} (ho : isCmp o = true) (t : TypeId) : CmOk P w o t := by
  intro k a b
  cases o <;> simp [isCmp] at ho <;> simp [binOp, Op.intCmp, cmpI, iEq_eq, iLt_eq, iLe_eq, bne] <;> (try (rw [Bool.eq_iff_iff]; simp))
theorem bCmS_run {o : BinOp} (ho : isCmp o = true) {t : TypeId} {x y v : V} (h : bCmS o x y = some v) (ρ : Rho) : (binOp o t (x.γ E ρ) (y.γ E ρ)).run P w = .ok (v.γ E ρ) w ∧ v.bd 0 := by
  unfold bCmS at h
  split at h
  · rename_i k a k' b hx hy
    rw [bc_eq] at h
    split at h
    · rename_i hk
      obtain rfl := kEq_eq hk
      simp at h; subst h
      rw [toE_γ hx, toE_γ hy, cmOk ho t]
      exact ⟨rfl, trivial⟩
    · simp at h
  · simp at h
theorem bCm_run {o : BinOp} (ho : isCmp o = true) {t : TypeId} {f : Int → Int → Bool} (hf : ∀ a b, cmpI o a b = some (f a b)) {q : QK} {x y v : V} (h : bCm o f q x y = some v) (ρ : Rho) :
    (binOp o t (x.γ E ρ) (y.γ E ρ)).run P w = .ok (v.γ E ρ) w ∧ v.bd 0 := by
  unfold bCm at h
  rcases vInt_cases x (fun k a => vInt y (fun k' b => bc (kEq k k') (some (.b (f a b))) none) (bCmS o x y)) (bCmS o x y) with ⟨k, a, rfl, e⟩ | e
  · rw [e] at h
    rcases vInt_cases y (fun k' b => bc (kEq k k') (some (V.b (f a b))) none) (bCmS o (.i k a) y) with ⟨k', b, rfl, e⟩ | e
    · rw [e, bc_eq] at h
      split at h
      · rename_i hk
        obtain rfl := kEq_eq hk
        simp at h; subst h
        simp only [V.γ]
        rw [cmOk ho t, hf]
        exact ⟨rfl, trivial⟩
      · simp at h
    · rw [e] at h; exact bCmS_run ho h ρ
  · rw [e] at h; exact bCmS_run ho h ρ
end Go.Ev
end
