/-
  Functions that are known by what they do to one thing; a chip's lines.
-/
import Derived.Test.YtligpkenodgfoaaGreatDoorE3
import Derived.Test.YtligpkenodgfoaaGreatDoorE4
import Derived.Below
set_option linter.unusedSimpArgs false
set_option linter.unusedVariables false
noncomputable section
namespace Go.Ev
open Go
variable {E : Env} {P : Program}
/-- a function that writes one thing, and makes nothing that is reached -/
def updHook (f : List V → H → Fa → Option (Ev.P × O × V)) : List V → H → Fa → K → Nat := fun l h fa k =>
  oc (f l h fa) (fun r => hc h (fun n lo t => setK r.1 t r.2.1 (fun t => k r.2.2 ⟨n, lo, t⟩ fa))) 1
/-- nothing else that was there is another one -/
def OnlyB (b : Nat) (w w' : World) : Prop := w'.os = w.os ∧ w'.tape = w.tape ∧ w'.output = w.output ∧ w.heap.size ≤ w'.heap.size ∧ ∀ k, k < w.heap.size → k ≠ b → w'.heap[k]? = w.heap[k]?
theorem updHook_ok {F : Nat} {f : List V → H → Fa → Option (Ev.P × O × V)} (hca : Callable P F)
    (hf : ∀ l h fa id o' v, f l h fa = some (id, o', v) → FaOk E fa → ∃ o, h.t.get id = some o ∧ o.live = true ∧ o'.live = true ∧ h.lo.toNat ≤ id.toNat ∧ o'.bd 0 ∧ v.bd 0 ∧
      ∀ (ρ : Rho) (w : World), o.Is E ρ (ρ id) w.heap → Calls P F (γL E ρ l).toArray w fun e w' => e = .returned (v.γ E ρ) ∧ o'.Is E ρ (ρ id) w'.heap ∧ OnlyB (ρ id).b w w') :
    CallOk E P (fun G l h fa k => bc (Nat.beq G F) (updHook f l h fa k) 1) := by
  intro G l h fa k hk hfa
  obtain ⟨hG, hk2⟩ := bc_ok (show bc (Nat.beq G F) (updHook f l h fa k) 1 = 0 from hk) (by simp)
  clear hk
  have hG : G = F := by simpa using hG
  subst hG
  obtain ⟨⟨id, o', v⟩, hv, hk⟩ := oc_ok (show oc (f l h fa) _ 1 = 0 from hk2) (by simp)
  obtain ⟨o, ho, hl, hl', hlo, hbo, hbv, hrun⟩ := hf l h fa id o' v hv hfa
  rw [hc_eq, setK_eq] at hk
  refine ⟨hca, v, ⟨h.n, h.lo, h.t.set id o'⟩, fa, hk, hfa, fun ρ w hb hs => (hrun ρ w (hs.obj id o ho)).mono ?_⟩
  rintro e w' ⟨he, hi, eos, etp, eou, esz, ekp⟩
  have hid := (hs.bd id o ho).1
  have same : (h.t.set id o').get id = some o' := PT.get_set_same id h.t o'
  have other : ∀ p, p ≠ id → (h.t.set id o').get p = h.t.get p := fun p hp => PT.get_set_other id p h.t o' (fun e => hp e.symm)
  have back : ∀ p u, (h.t.set id o').get p = some u → (p = id ∧ u = o') ∨ (p ≠ id ∧ h.t.get p = some u) := by
    intro p u hp
    by_cases e : p = id
    · subst e
      rw [same] at hp
      exact .inl ⟨rfl, (Option.some.inj hp).symm⟩
    · rw [other p e] at hp
      exact .inr ⟨e, hp⟩
  refine ⟨ρ, he, ⟨fun p u hp => ?_, fun p q u u' hp hq l1 l2 hh => ?_, fun p u hp => ?_⟩, ⟨Nat.le_refl _, rfl, fun _ _ => rfl, fun p u h1 h2 => ?_, eos, etp, eou, esz, fun b hb hn => ?_, fun p hp _ => ?_, fun p u hp hg hl2 => ?_⟩, bd_mono (Nat.zero_le _) v hbv⟩
  · rcases back p u hp with ⟨rfl, rfl⟩ | ⟨hne, hp⟩
    · exact hi
    · refine O.Is_heap E (fun hlu => ekp _ (hs.lt E hp hlu) (fun e => hne (hs.inj p id u o hp ho hlu hl e))) (hs.obj p u hp)
  · have orig : ∀ p u, (h.t.set id o').get p = some u → u.live = true → ∃ u0, h.t.get p = some u0 ∧ u0.live = true := by
      intro p u hp l1
      rcases back p u hp with ⟨rfl, rfl⟩ | ⟨_, hp⟩
      · exact ⟨o, ho, hl⟩
      · exact ⟨u, hp, l1⟩
    obtain ⟨u0, g1, k1⟩ := orig p u hp l1
    obtain ⟨u1, g2, k2⟩ := orig q u' hq l2
    exact hs.inj p q u0 u1 g1 g2 k1 k2 hh
  · rcases back p u hp with ⟨rfl, rfl⟩ | ⟨_, hp⟩
    · exact ⟨hid, O.bd_mono (Nat.zero_le _) u hbo⟩
    · exact hs.bd p u hp
  · exfalso
    rcases back p u h2 with ⟨rfl, rfl⟩ | ⟨_, hp⟩
    · exact absurd hid (Nat.not_lt.2 h1)
    · exact absurd (hs.bd p u hp).1 (Nat.not_lt.2 h1)
  · exact ekp b hb (fun e => hn id o ho hl hlo e.symm)
  · have hp : p.toNat < h.lo.toNat := hp
    exact other p (fun e => by subst e; omega)
  · rcases back p u hg with ⟨rfl, rfl⟩ | ⟨_, hg⟩
    · exact ⟨o, ho, hl⟩
    · exact ⟨u, hg, hl2⟩
/-! a chip: three cells -/
theorem arS_or16 (x y : Nat) (hx : x < 65536) (hy : y < 65536) : arS .or .u16 (x : Int) (y : Int) = ((Nat.lor x y : Nat) : Int) := by
  show fOr .u16 (x : Int) (y : Int) = _
  rw [fOr_eq]
  unfold bitI
  have h1 : (BitVec.ofInt IntKind.u16.bits (x : Int) ||| BitVec.ofInt IntKind.u16.bits (y : Int)).toNat = x ||| y := by
    rw [BitVec.ofInt_natCast, BitVec.ofInt_natCast, BitVec.toNat_or, BitVec.toNat_ofNat, BitVec.toNat_ofNat, show IntKind.u16.bits = 16 from rfl, Nat.mod_eq_of_lt (by omega), Nat.mod_eq_of_lt (by omega)]
  rw [h1, IntKind.wrap_u16]
  have h2 : x ||| y < 2 ^ 16 := Nat.or_lt_two_pow (by omega) (by omega)
  show ((x ||| y : Nat) : Int) % 65536 = ((x ||| y : Nat) : Int)
  omega
theorem den_bit16 {e : SE} {n : Nat} (he : e.den E = n) (hn : n < 16) : SE.den E (.op .shl .u16 (.lit 1) e) = ((2 ^ n : Nat) : Int) := by
  show (shI .shl .u16 1 (e.den E)).getD 0 = _
  rw [he]
  have hm : min ((n : Int)).toNat (IntKind.bits .u16) = n := by show min n 16 = n; omega
  simp only [shI, hm, Option.getD_some, wrapF_eq]
  have hp : (2 : Nat) ^ n < 2 ^ 16 := Nat.pow_lt_pow_right (by omega) hn
  have : (1 : Int) * 2 ^ n = ((2 ^ n : Nat) : Int) := by simp
  rw [this, IntKind.wrap_u16]
  generalize (2 : Nat) ^ n = x at hp
  omega
/-- a line is raised: which one is a symbol -/
def raiseF (tC : TypeId) : List V → H → Fa → Option (Ev.P × O × V)
  | [.ptr id 0, .si .i64 e], h, fa => match h.t.get id with
    | some (.cells t [.i .u16 (.ofNat p), .i .u16 (.ofNat m), .i .u32 (.ofNat n)]) =>
      bc (Nat.beq t tC && Nat.ble h.lo.toNat id.toNat && Nat.blt p 65536 && Nat.blt m 65536 && Nat.blt n 4294967296 && boEq2 (SB.ask fa (.cmp .geq e (.lit 0))) true && boEq2 (SB.ask fa (.cmp .lss e (.lit 16))) true)
        (some (id, .cells t [.si .u16 (.op .or .u16 (.lit (.ofNat p)) (.op .shl .u16 (.lit 1) e)), .i .u16 (.ofNat m), .i .u32 (.ofNat n)], .i .i64 0)) none
    | _ => none
  | _, _, _ => none
where boEq2 (a : Option Bool) (b : Bool) : Bool := match a with
  | some x => x == b
  | none => false
theorem raise_ok {F : Nat} {tC : TypeId} (hca : Callable P F)
    (hcon : ∀ (b p m n i : Nat) (w : World), p < 65536 → m < 65536 → n < 4294967296 → i < 16 → w.heap[b]? = some (.cells #[.int .u16 (p : Int), .int .u16 (m : Int), .int .u32 (n : Int)] tC (0, 0)) →
      Calls P F #[.pointer (some ⟨b, 0, none⟩), .int .i64 (i : Int)] w fun e w' => e = .returned (.int .i64 0) ∧ w'.heap[b]? = some (.cells #[.int .u16 ((Nat.lor p (2 ^ i) : Nat) : Int), .int .u16 (m : Int), .int .u32 (n : Int)] tC (0, 0)) ∧ OnlyB b w w') :
    CallOk E P (fun G l h fa k => bc (Nat.beq G F) (updHook (raiseF tC) l h fa k) 1) := by
  refine updHook_ok hca fun l h fa id o' v hf hfa => ?_
  unfold raiseF at hf
  split at hf
  rotate_left
  · cases hf
  rename_i id0 e
  split at hf
  rotate_left
  · cases hf
  rename_i t p m n ho
  cases hb : (Nat.beq t tC && Nat.ble h.lo.toNat id0.toNat && Nat.blt p 65536 && Nat.blt m 65536 && Nat.blt n 4294967296 && raiseF.boEq2 (SB.ask fa (.cmp .geq e (.lit 0))) true && raiseF.boEq2 (SB.ask fa (.cmp .lss e (.lit 16))) true) with
  | false => rw [hb] at hf; cases hf
  | true =>
  rw [hb] at hf
  have hf : some (id0, O.cells t [.si .u16 (.op .or .u16 (.lit (.ofNat p)) (.op .shl .u16 (.lit 1) e)), .i .u16 (.ofNat m), .i .u32 (.ofNat n)], V.i .i64 0) = some (id, o', v) := hf
  cases hf
  simp only [Bool.and_eq_true, Nat.beq_eq, Nat.ble_eq, Nat.blt_eq] at hb
  obtain ⟨⟨⟨⟨⟨⟨rfl, h1⟩, h2⟩, h3⟩, h4⟩, h5⟩, h6⟩ := hb
  have ask : ∀ {c : SB}, raiseF.boEq2 (SB.ask fa c) true = true → c.den E = true := by
    intro c hc
    unfold raiseF.boEq2 at hc
    split at hc
    · rename_i x hx
      have : x = true := by simpa using hc
      subst this
      exact SB.ask_ok hfa c true hx
    · cases hc
  have g5 := ask h5
  have g6 := ask h6
  have g5 : (cmpI .geq (e.den E) 0).getD false = true := g5
  have g6 : (cmpI .lss (e.den E) 16).getD false = true := g6
  simp [cmpI, iLt_eq, iLe_eq] at g5 g6
  obtain ⟨i, hi⟩ := Int.eq_ofNat_of_zero_le g5
  have hi16 : i < 16 := by omega
  have hden : SE.den E (.op .or .u16 (.lit (.ofNat p)) (.op .shl .u16 (.lit 1) e)) = ((Nat.lor p (2 ^ i) : Nat) : Int) := by
    have hp : (2 : Nat) ^ i < 2 ^ 16 := Nat.pow_lt_pow_right (by omega) hi16
    show arS .or .u16 ((p : Nat) : Int) (SE.den E (.op .shl .u16 (.lit 1) e)) = _
    rw [den_bit16 hi hi16, arS_or16 p _ h2 (by omega)]
  refine ⟨_, ho, rfl, rfl, h1, ⟨trivial, trivial, trivial, trivial⟩, trivial, fun ρ w hIs => ?_⟩
  have := hcon (ρ id).b p m n i w h2 h3 h4 hi16 (by
    have hIs : w.heap[(ρ id).b]? = some (.cells (γL E ρ [.i .u16 (.ofNat p), .i .u16 (.ofNat m), .i .u32 (.ofNat n)]).toArray t (0, 0)) := hIs
    exact hIs)
  have hargs : (γL E ρ [.ptr id 0, .si .i64 e]).toArray = #[.pointer (some ⟨(ρ id).b, 0, none⟩), .int .i64 (i : Int)] := by
    simp only [γL, V.γ, hi]
  rw [hargs]
  refine this.mono ?_
  rintro e' w' ⟨he, hh, hk⟩
  refine ⟨he, ?_, hk⟩
  show w'.heap[(ρ id).b]? = some (.cells (γL E ρ [.si .u16 _, .i .u16 (.ofNat m), .i .u32 (.ofNat n)]).toArray t (0, 0))
  rw [hh]
  simp only [γL, V.γ, hden]
  rfl
end Go.Ev
end
/-
  A chip's lines, of literals; the lowest bit of a word, by a table that lies in a row of the world.
-/
set_option linter.unusedSimpArgs false
set_option linter.unusedVariables false
noncomputable section
namespace Go.Ev
open Go
variable {E : Env} {P : Program}
/-- a line's bits are turned -/
def chipF (tC : TypeId) (ext : List V) (f : Nat → Nat → Nat → Nat × Nat) : List V → H → Fa → Option (Ev.P × O × V)
  | .ptr id 0 :: .i .i64 (.ofNat n) :: r, h, fa => match h.t.get id with
    | some (.cells t [.i .u16 (.ofNat p), .i .u16 (.ofNat m), .i .u32 (.ofNat c)]) =>
      bc (vlBeq r ext && Nat.beq t tC && Nat.ble h.lo.toNat id.toNat && Nat.blt p 65536 && Nat.blt m 65536 && Nat.blt c 4294967296 && Nat.blt n 16)
        (some (id, .cells t [.i .u16 (.ofNat (f n p m).1), .i .u16 (.ofNat (f n p m).2), .i .u32 (.ofNat c)], .i .i64 0)) none
    | _ => none
  | _, _, _ => none
theorem chip_ok {F : Nat} {tC : TypeId} {ext : List V} {xs : List Value} {f : Nat → Nat → Nat → Nat × Nat} (hca : Callable P F) (hx : ∀ ρ, γL E ρ ext = xs)
    (hcon : ∀ (b p m c n : Nat) (w : World), p < 65536 → m < 65536 → c < 4294967296 → n < 16 → w.heap[b]? = some (.cells #[.int .u16 (p : Int), .int .u16 (m : Int), .int .u32 (c : Int)] tC (0, 0)) →
      Calls P F (Value.pointer (some ⟨b, 0, none⟩) :: .int .i64 (n : Int) :: xs).toArray w fun e w' => e = .returned (.int .i64 0) ∧
        w'.heap[b]? = some (.cells #[.int .u16 ((f n p m).1 : Int), .int .u16 ((f n p m).2 : Int), .int .u32 (c : Int)] tC (0, 0)) ∧ OnlyB b w w') :
    CallOk E P (fun G l h fa k => bc (Nat.beq G F) (updHook (chipF tC ext f) l h fa k) 1) := by
  refine updHook_ok hca fun l h fa id o' v hf hfa => ?_
  unfold chipF at hf
  split at hf
  rotate_left
  · cases hf
  rename_i id0 n r
  split at hf
  rotate_left
  · cases hf
  rename_i t p m c ho
  cases hb : (vlBeq r ext && Nat.beq t tC && Nat.ble h.lo.toNat id0.toNat && Nat.blt p 65536 && Nat.blt m 65536 && Nat.blt c 4294967296 && Nat.blt n 16) with
  | false => rw [hb] at hf; cases hf
  | true =>
  rw [hb] at hf
  have hf : some (id0, O.cells t [.i .u16 (.ofNat (f n p m).1), .i .u16 (.ofNat (f n p m).2), .i .u32 (.ofNat c)], V.i .i64 0) = some (id, o', v) := hf
  cases hf
  simp only [Bool.and_eq_true, Nat.beq_eq, Nat.ble_eq, Nat.blt_eq] at hb
  obtain ⟨⟨⟨⟨⟨⟨h0, rfl⟩, h1⟩, h2⟩, h3⟩, h4⟩, h5⟩ := hb
  have h0 := vlBeq_ok h0
  subst h0
  refine ⟨_, ho, rfl, rfl, h1, ⟨trivial, trivial, trivial, trivial⟩, trivial, fun ρ w hIs => ?_⟩
  have := hcon (ρ id).b p m c n w h2 h3 h4 h5 (by
    have hIs : w.heap[(ρ id).b]? = some (.cells (γL E ρ [.i .u16 (.ofNat p), .i .u16 (.ofNat m), .i .u32 (.ofNat c)]).toArray t (0, 0)) := hIs
    exact hIs)
  have hargs : (γL E ρ (.ptr id 0 :: .i .i64 (.ofNat n) :: r)).toArray = (Value.pointer (some ⟨(ρ id).b, 0, none⟩) :: .int .i64 (n : Int) :: xs).toArray := by
    simp only [γL, V.γ, hx]
    rfl
  rw [hargs]
  refine this.mono ?_
  rintro e' w' ⟨he, hh, hk⟩
  exact ⟨he, hh, hk⟩
def raiseL (n p m : Nat) : Nat × Nat := (Nat.lor p (2 ^ n), m)
def maskL (n p m : Nat) : Nat × Nat := (p, Nat.lor m (2 ^ n))
def ackL (n p m : Nat) : Nat × Nat := (Nat.xor p (Nat.land p (2 ^ n)), Nat.xor m (Nat.land m (2 ^ n)))
/-- the lowest bit: by hand -/
def lowN (x : Nat) : Nat := Nat.log2 (Nat.land x (65536 - x))
/-- a function of its arguments and of the row that lies at the heap's first place -/
def tzF (l : List V) (h : H) : Option V := match l with
  | [.i .u16 (.ofNat n)] => match h.t.get .h with
    | some (.row 0 1 (.lit 32) _ []) => bc (Nat.blt 0 n && Nat.blt n 65536) (some (.i .i64 (.ofNat (lowN n)))) none
    | _ => none
  | _ => none
def tzX : List V → H → Fa → K → Nat := fun l h fa k => oc (tzF l h) (fun v => k v h fa) 1
theorem tz_ok {F : Nat} (hca : Callable P F)
    (hcon : ∀ (n : Nat) (w : World), 0 < n → n < 65536 → w.heap[(E.s 0).b]? = some (.cells (E.s 0).cs (E.s 0).t (E.s 0).fz) → Calls P F #[.int .u16 (n : Int)] w fun e w' => e = .returned (.int .i64 (lowN n : Int)) ∧ w = w') :
    CallOk E P (fun G l h fa k => bc (Nat.beq G F) (tzX l h fa k) 1) := by
  intro G l h fa k hk hfa
  obtain ⟨hG, hk2⟩ := bc_ok (show bc (Nat.beq G F) (tzX l h fa k) 1 = 0 from hk) (by simp)
  clear hk
  have hG : G = F := by simpa using hG
  subst hG
  obtain ⟨v, hv, hk⟩ := oc_ok (show oc (tzF l h) _ 1 = 0 from hk2) (by simp)
  unfold tzF at hv
  split at hv
  rotate_left
  · cases hv
  rename_i n
  split at hv
  rotate_left
  · cases hv
  rename_i I ho
  cases hb : (Nat.blt 0 n && Nat.blt n 65536) with
  | false => rw [hb] at hv; cases hv
  | true =>
  rw [hb] at hv
  have hv : some (V.i .i64 (.ofNat (lowN n))) = some v := hv
  cases hv
  simp only [Bool.and_eq_true, Nat.blt_eq] at hb
  refine ⟨hca, _, h, fa, hk, hfa, fun ρ w hbd hs => ?_⟩
  obtain ⟨g1, g2, _⟩ := hs.obj _ _ ho
  refine (hcon n w hb.1 hb.2 (by rw [← g1]; exact g2)).mono ?_
  rintro e w' ⟨he, rfl⟩
  exact ⟨ρ, he, hs, hs.refl, trivial⟩
end Go.Ev
end
/-
  Laws that loop over what came in: the loop's head has finitely many states, told in symbols.
-/
set_option linter.unusedSimpArgs false
set_option linter.unusedVariables false
noncomputable section
namespace Go.Ev
open Go Go.RowKit
/-! where the loop stands -/
inductive ZC where
  | hole | seqL (z : ZC) (b : Code) | seqR (a : Code) (z : ZC) | block (i : Nat) (z : ZC)
def ZC.plug (x : Code) : ZC → Code
  | .hole => x
  | .seqL z b => .seq (z.plug x) b
  | .seqR a z => .seq a (z.plug x)
  | .block i z => .block i (z.plug x)
def ZC.drB (dr : Nat → Option Dr) : ZC → Bool
  | .hole => true
  | .seqL z b => z.drB dr && drawB dr b
  | .seqR a z => drawB dr a && z.drB dr
  | .block _ z => z.drB dr
inductive ZI where
  | hole | seqL (z : ZI) (b : IC) | seqR (a : IC) (z : ZI) | block (i : Nat) (z : ZI)
def zGo (Y : Ty) (N : Nat) (dr : Nat → Option Dr) : ZC → ZI
  | .hole => .hole
  | .seqL z b => .seqL (zGo Y N dr z) (cCode Y N dr b)
  | .seqR a z => .seqR (cCode Y N dr a) (zGo Y N dr z)
  | .block i z => .block i (zGo Y N dr z)
def kSeq (b : IC) (g : Ctx) (ko : K2) : K2 := fun e fr h fa => aeGo e (codeT b g fr h fa ko) (ko .ret fr h fa) (fun i => ko (.exit i) fr h fa)
def kBlk (i : Nat) (ko : K2) : K2 := fun e fr h fa => aeGo e (ko .normal fr h fa) (ko .ret fr h fa) (fun j => bc (Nat.beq j i) (ko .normal fr h fa) (ko (.exit j) fr h fa))
/-- from the start to the loop -/
def zIn : ZI → Ctx → Fr → H → Fa → K1 → K2 → Nat
  | .hole, _, fr, h, fa, k, _ => k fr h fa
  | .seqL z b, g, fr, h, fa, k, ko => zIn z g fr h fa k (kSeq b g ko)
  | .seqR a z, g, fr, h, fa, k, ko => codeT a g fr h fa (fun e fr h fa => aeGo e (zIn z g fr h fa k ko) (ko .ret fr h fa) (fun i => ko (.exit i) fr h fa))
  | .block i z, g, fr, h, fa, k, ko => zIn z g fr h fa k (kBlk i ko)
/-- behind the loop -/
def zOut : ZI → Ctx → K2 → K2
  | .hole, _, ko => ko
  | .seqL z b, g, ko => zOut z g (kSeq b g ko)
  | .seqR _ z, g, ko => zOut z g ko
  | .block i z, g, ko => zOut z g (kBlk i ko)
/-! one state told as another one -/
abbrev Sg := Nat → Option SE
def sbE (σ : Sg) : SE → Option SE
  | .v i => σ i
  | .lit n => some (.lit n)
  | .op o k a b => match sbE σ a, sbE σ b with
    | some a, some b => some (.op o k a b)
    | _, _ => none
  | .cv k a => match sbE σ a with
    | some a => some (.cv k a)
    | none => none
  | .mm x a b => match sbE σ a, sbE σ b with
    | some a, some b => some (.mm x a b)
    | _, _ => none
def sbB (σ : Sg) : SB → Option SB
  | .v i => some (.v i)
  | .cmp o a b => match sbE σ a, sbE σ b with
    | some a, some b => some (.cmp o a b)
    | _, _ => none
  | .not a => match sbB σ a with
    | some a => some (.not a)
    | none => none
  | .and a b => match sbB σ a, sbB σ b with
    | some a, some b => some (.and a b)
    | _, _ => none
def mE (σ : Sg) (e u : SE) : Bool := match sbE σ e with
  | some s => SE.beq s u
  | none => false
mutual
def mV (σ : Sg) : V → V → Bool
  | .b x, .b y => boEq x y
  | .i k n, .i k' n' => kEq k k' && iEq n n'
  | .sb c, .sb c' => match sbB σ c with
    | some s => SB.beq s c'
    | none => false
  | .si k e, .si k' e' => kEq k k' && mE σ e e'
  | .si k e, .i k' n => kEq k k' && mE σ e (.lit n)
  | .ptr a o, .ptr b o' => pEq a b && Nat.beq o o'
  | .nil, .nil => true
  | .sl a o n c, .sl a' o' n' c' => pEq a a' && Nat.beq o o' && Nat.beq n n' && Nat.beq c c'
  | .vec a n, .vec a' n' => pEq a a' && Nat.beq n n'
  | .snil, .snil => true
  | .fn F p c, .fn F' p' c' => Nat.beq F F' && mL σ p p' && mL σ c c'
  | .fnil, .fnil => true
  | .agg l, .agg l' => mL σ l l'
  | .tup l, .tup l' => mL σ l l'
  | .fs a q, .fs a' q' => pEq a a' && Nat.beq q q'
  | _, _ => false
def mL (σ : Sg) : List V → List V → Bool
  | [], [] => true
  | x :: r, y :: s => mV σ x y && mL σ r s
  | _, _ => false
end
/-- of a trie that lacks what the other one tells -/
def mTrN (σ : Sg) (z' : V) : Tr V → Bool
  | .nil => true
  | .leaf a => mV σ a z'
  | .node l r => mTrN σ z' l && mTrN σ z' r
def mTr (σ : Sg) (z' : V) : Tr V → Tr V → Bool
  | t, .nil => mTrN σ z' t
  | .leaf a, .leaf b => mV σ a b
  | .node l r, .node l' r' => mTr σ z' l l' && mTr σ z' r r'
  | _, _ => false
def mO (σ : Sg) : O → O → Bool
  | .cells t l, .cells t' l' => Nat.beq t t' && mL σ l l'
  | .arr t n d z tr, .arr t' n' d' z' tr' => Nat.beq t t' && Nat.beq n n' && Nat.beq d d' && mV σ z z' && mTr σ z' tr tr'
  | .vec t e n l, .vec t' e' n' l' => Nat.beq t t' && Nat.beq e e' && Nat.beq n n' && mL σ l l'
  | .varr t n d z tr, .varr t' n' d' z' tr' => Nat.beq t t' && Nat.beq n n' && Nat.beq d d' && mV σ z z' && mTr σ z' tr tr'
  | .row q z N _ _, .row q' z' N' _ _ => Nat.beq q q' && Nat.beq z z' && mE σ N N'
  | .dead, .dead => true
  | _, _ => false
def trBdB (n : P) : Tr V → Bool
  | .nil => true
  | .leaf a => a.bdB n
  | .node l r => trBdB n l && trBdB n r
def oBdB (n : P) : O → Bool
  | .cells _ l => bdLB n l
  | .arr _ _ _ z tr => z.bdB n && trBdB n tr
  | .vec _ _ _ l => bdLB n l
  | .varr _ _ _ z tr => z.bdB n && trBdB n tr
  | .row _ _ _ _ l => bdLB n l
  | .dead => true
def ptAll (q : P → O → Bool) (f : P → P) : PT O → Bool
  | .e => true
  | .n v l r => (match v with
    | some o => q (f .h) o
    | none => true) && ptAll q (fun p => f (.o p)) l && ptAll q (fun p => f (.i p)) r
/-- a state of the loop's head -/
structure GS where
  fr : List (Ky × V)
  h : H
def frOf (l : List (Ky × V)) (k : Fr → Nat) : Nat := lRec (fun fr k => k fr) (fun p _ ih fr k => pc p (fun q v => setF q fr v (fun fr => ih fr k))) l Fr.e k
def matchB (S : GS) (σ : Sg) (fr : Fr) (h : H) : Bool :=
  hc S.h (fun n lo t => hc h (fun _ lo' t' => pEq lo lo' &&
    allB (fun p : Ky × V => p.2.bdB n && (match fr.get p.1 with
      | some u => mV σ p.2 u
      | none => false)) S.fr &&
    ptAll (fun p o => pLt p n && oBdB n o && (match t'.get p with
      | some u => mO σ o u
      | none => false)) (fun p => p) t))
/-- all of them fit -/
def nextK (st : Nat → GS) (nx : List (Nat × Sg)) (fr : Fr) (h : H) : Nat := lCase 1 (fun _ _ => bc (allB (fun p : Nat × Sg => matchB (st p.1) p.2 fr h) nx) 0 1) nx
def runJ (st : Nat → GS) (x : IC) (z : ZI) (ko : K2) (g : Ctx) (j : Nat) (fa : Fa) (nx : List (Nat × Sg)) : Nat :=
  frOf (st j).fr (fun fr => codeT x g fr (st j).h fa (fun e fr h fa => aeGo e (nextK st nx fr h) (zOut z g ko .ret fr h fa) (fun i => zOut z g ko (.exit i) fr h fa)))

/-! what it means -/
variable {E E' : Env} {P : Program} {N : Nat}
def rowSame (a b : Row) : Prop := a.b = b.b ∧ a.off = b.off ∧ a.len = b.len ∧ a.cap = b.cap ∧ a.esz = b.esz ∧ a.t = b.t ∧ a.cs = b.cs ∧ a.fz = b.fz
/-- the symbols told anew -/
structure TrE (σ : Sg) (E E' : Env) : Prop where
  i : ∀ i s, σ i = some s → E'.i i = s.den E
  b : E'.b = E.b
  s : ∀ q, rowSame (E'.s q) (E.s q)
theorem sbE_ok {σ : Sg} (t : TrE σ E E') : ∀ {e u : SE}, sbE σ e = some u → u.den E = e.den E'
  | .v i, u, h => (t.i i u h).symm
  | .lit n, u, h => by simp [sbE] at h; subst h; rfl
  | .op o k a b, u, h => by
    simp only [sbE] at h
    split at h
    · rename_i x y hx hy
      simp at h; subst h
      simp only [SE.den, sbE_ok t hx, sbE_ok t hy]
    · simp at h
  | .cv k a, u, h => by
    simp only [sbE] at h
    split at h
    · rename_i x hx
      simp at h; subst h
      simp only [SE.den, sbE_ok t hx]
    · simp at h
  | .mm x a b, u, h => by
    simp only [sbE] at h
    split at h
    · rename_i p q hp hq
      simp at h; subst h
      cases x <;> simp only [SE.den, sbE_ok t hp, sbE_ok t hq]
    · simp at h
theorem sbB_ok {σ : Sg} (t : TrE σ E E') : ∀ {c u : SB}, sbB σ c = some u → u.den E = c.den E'
  | .v i, u, h => by simp [sbB] at h; subst h; simp only [SB.den, t.b]
  | .cmp o a b, u, h => by
    simp only [sbB] at h
    split at h
    · rename_i x y hx hy
      simp at h; subst h
      simp only [SB.den, sbE_ok t hx, sbE_ok t hy]
    · simp at h
  | .not a, u, h => by
    simp only [sbB] at h
    split at h
    · rename_i x hx
      simp at h; subst h
      simp only [SB.den, sbB_ok t hx]
    · simp at h
  | .and a b, u, h => by
    simp only [sbB] at h
    split at h
    · rename_i x y hx hy
      simp at h; subst h
      simp only [SB.den, sbB_ok t hx, sbB_ok t hy]
    · simp at h
theorem mE_ok {σ : Sg} (t : TrE σ E E') {e u : SE} (h : mE σ e u = true) : u.den E = e.den E' := by
  unfold mE at h
  split at h
  · rename_i s hs
    rw [← SE.beq_eq h]; exact sbE_ok t hs
  · cases h
mutual
theorem mV_ok {σ : Sg} (t : TrE σ E E') (ρ : Rho) : ∀ {v u : V}, mV σ v u = true → u.γ E ρ = v.γ E' ρ
  | .b x, u, h => by cases u <;> simp only [mV] at h <;> first | (simp at h; done) | rw [boEq_ok h]; rfl
  | .i k n, u, h => by
    cases u <;> simp only [mV, Bool.and_eq_true] at h <;> first | (simp at h; done) | skip
    have h2 := h.2
    rw [iEq_eq] at h2
    rw [kEq_eq h.1, of_decide_eq_true h2]; rfl
  | .sb c, u, h => by
    cases u <;> simp only [mV] at h <;> first | (simp at h; done) | skip
    split at h
    · rename_i s hs
      simp only [V.γ, ← sbB_ok t hs, SB.beq_eq h]
    · cases h
  | .si k e, u, h => by
    cases u <;> simp only [mV, Bool.and_eq_true] at h <;> first | (simp at h; done) | skip
    · have h2 := mE_ok t h.2
      simp only [V.γ, ← h2, kEq_eq h.1, SE.den]
    · simp only [V.γ, mE_ok t h.2, kEq_eq h.1]
  | .ptr a o, u, h => by
    cases u <;> simp only [mV, Bool.and_eq_true, Nat.beq_eq] at h <;> first | (simp at h; done) | skip
    rw [pEq_ok h.1, h.2]; rfl
  | .nil, u, h => by cases u <;> simp only [mV] at h <;> first | (simp at h; done) | rfl
  | .sl a o n c, u, h => by
    cases u <;> simp only [mV, Bool.and_eq_true, Nat.beq_eq] at h <;> first | (simp at h; done) | skip
    rw [pEq_ok h.1.1.1, h.1.1.2, h.1.2, h.2]; rfl
  | .vec a n, u, h => by
    cases u <;> simp only [mV, Bool.and_eq_true, Nat.beq_eq] at h <;> first | (simp at h; done) | skip
    rw [pEq_ok h.1, h.2]; rfl
  | .snil, u, h => by cases u <;> simp only [mV] at h <;> first | (simp at h; done) | rfl
  | .fn F p c, u, h => by
    cases u <;> simp only [mV, Bool.and_eq_true, Nat.beq_eq] at h <;> first | (simp at h; done) | skip
    simp only [V.γ, h.1.1, mL_ok t ρ h.1.2, mL_ok t ρ h.2]
  | .fnil, u, h => by cases u <;> simp only [mV] at h <;> first | (simp at h; done) | rfl
  | .agg l, u, h => by
    cases u <;> simp only [mV] at h <;> first | (simp at h; done) | skip
    simp only [V.γ, mL_ok t ρ h]
  | .tup l, u, h => by
    cases u <;> simp only [mV] at h <;> first | (simp at h; done) | skip
    simp only [V.γ, mL_ok t ρ h]
  | .fs a q, u, h => by
    cases u <;> simp only [mV, Bool.and_eq_true, Nat.beq_eq] at h <;> first | (simp at h; done) | skip
    obtain ⟨s1, s2, s3, s4, s5, s6, s7, s8⟩ := t.s q
    simp only [V.γ, ← h.2, s1, s2, s3, s4]
  | .fp a q, u, h => by cases u <;> simp only [mV] at h <;> (simp at h; done)
theorem mL_ok {σ : Sg} (t : TrE σ E E') (ρ : Rho) : ∀ {l m : List V}, mL σ l m = true → γL E ρ m = γL E' ρ l
  | [], m, h => by cases m <;> simp only [mL] at h <;> first | (simp at h; done) | rfl
  | x :: r, m, h => by
    cases m <;> simp only [mL, Bool.and_eq_true] at h <;> first | (simp at h; done) | skip
    simp only [γL, mV_ok t ρ h.1, mL_ok t ρ h.2]
end
theorem mL_len {σ : Sg} : ∀ {l m : List V}, mL σ l m = true → m.length = l.length
  | [], m, h => by cases m <;> simp only [mL] at h <;> first | (simp at h; done) | rfl
  | x :: r, m, h => by
    cases m <;> simp only [mL, Bool.and_eq_true] at h <;> first | (simp at h; done) | skip
    simp [mL_len h.2]
theorem trAt_node {l r : Tr V} {d : Nat} {z : V} {i : Nat} : trAt (.node l r) (d + 1) z i = if even i = true then trAt l d z (i / 2) else trAt r d z (i / 2) := by
  show (Bool.rec (motive := fun _ => Option V) (r.get d (Nat.div i 2)) (l.get d (Nat.div i 2)) (even i)).getD z = _
  cases even i <;> rfl
theorem mTrN_at {σ : Sg} (t : TrE σ E E') (ρ : Rho) {z z' : V} (hz : mV σ z z' = true) : ∀ {a : Tr V} (d i : Nat), mTrN σ z' a = true → z'.γ E ρ = (trAt a d z i).γ E' ρ
  | .nil, d, i, h => by
    have : trAt (.nil : Tr V) d z i = z := by unfold trAt; rw [Tr.get_nil]; rfl
    rw [this]; exact mV_ok t ρ hz
  | .leaf x, d, i, h => by
    cases d with
    | zero => exact mV_ok t ρ h
    | succ d => exact mV_ok t ρ hz
  | .node l r, d, i, h => by
    simp only [mTrN, Bool.and_eq_true] at h
    cases d with
    | zero => exact mV_ok t ρ hz
    | succ d =>
      rw [trAt_node]
      split
      · exact mTrN_at t ρ hz d _ h.1
      · exact mTrN_at t ρ hz d _ h.2
theorem mTr_at {σ : Sg} (t : TrE σ E E') (ρ : Rho) {z z' : V} (hz : mV σ z z' = true) : ∀ {a b : Tr V} (_ : mTr σ z' a b = true) (d i : Nat), (trAt b d z' i).γ E ρ = (trAt a d z i).γ E' ρ
  | a, .nil, h, d, i => by
    have h : mTrN σ z' a = true := by cases a <;> exact h
    have : trAt (.nil : Tr V) d z' i = z' := by unfold trAt; rw [Tr.get_nil]; rfl
    rw [this]; exact mTrN_at t ρ hz d i h
  | .leaf x, .leaf y, h, d, i => by
    cases d with
    | zero => exact mV_ok t ρ h
    | succ d => exact mV_ok t ρ hz
  | .node l r, .node l' r', h, d, i => by
    simp only [mTr, Bool.and_eq_true] at h
    cases d with
    | zero => exact mV_ok t ρ hz
    | succ d =>
      rw [trAt_node, trAt_node]
      split
      · exact mTr_at t ρ hz h.1 d _
      · exact mTr_at t ρ hz h.2 d _
  | .nil, .leaf y, h, d, i => by simp [mTr] at h
  | .nil, .node l r, h, d, i => by simp [mTr] at h
  | .leaf x, .node l r, h, d, i => by simp [mTr] at h
  | .node l r, .leaf y, h, d, i => by simp [mTr] at h
theorem trBd_ok {n : Ev.P} : ∀ {a : Tr V} (d i : Nat) (v : V), trBdB n a = true → a.get d i = some v → v.bd n.toNat
  | .nil, d, i, v, h, hg => by cases d <;> cases hg
  | .leaf x, d, i, v, h, hg => by
    cases d with
    | zero => have hg : some x = some v := hg; cases hg; exact bdB_ok _ h
    | succ d => cases hg
  | .node l r, d, i, v, h, hg => by
    simp only [trBdB, Bool.and_eq_true] at h
    cases d with
    | zero => cases hg
    | succ d =>
      have hg : Bool.rec (motive := fun _ => Option V) (r.get d (Nat.div i 2)) (l.get d (Nat.div i 2)) (even i) = some v := hg
      cases he : even i with
      | true => rw [he] at hg; exact trBd_ok d _ v h.1 hg
      | false => rw [he] at hg; exact trBd_ok d _ v h.2 hg
theorem oBd_ok {n : Ev.P} {o : O} (h : oBdB n o = true) : o.bd n.toNat := by
  cases o with
  | cells t l => exact bdLB_ok l h
  | arr t m d z tr =>
    simp only [oBdB, Bool.and_eq_true] at h
    exact ⟨bdB_ok z h.1, fun i v _ hv => trBd_ok d i v h.2 hv⟩
  | vec t e m l => exact bdLB_ok l h
  | varr t m d z tr =>
    simp only [oBdB, Bool.and_eq_true] at h
    exact ⟨bdB_ok z h.1, fun i v _ hv => trBd_ok d i v h.2 hv⟩
  | row q z N I l => exact bdLB_ok l h
  | dead => trivial
theorem mO_live {σ : Sg} {o u : O} (h : mO σ o u = true) : u.live = o.live := by
  cases o <;> cases u <;> simp only [mO] at h <;> first | (simp at h; done) | rfl
/-- of a row that is looked at: the element -/
def RowEl (E : Env) (o : O) : Prop := match o with
  | .row q z N I l => l ≠ [] → I.den E = (E.s q).idx ∧ (E.s q).idx < (E.s q).len ∧ l.length = z ∧ ∀ ρ i, i < l.length → (E.s q).cs[(E.s q).off + (E.s q).idx * z + i]? = (l[i]?).map (V.γ E ρ)
  | _ => True
theorem mO_is {σ : Sg} (t : TrE σ E E') {ρ : Rho} {L : Pl} {hp : Array Obj} {o u : O} (h : mO σ o u = true) (hr : RowEl E' o) (hi : u.Is E ρ L hp) : o.Is E' ρ L hp := by
  cases o <;> cases u <;> simp only [mO, Bool.and_eq_true, Nat.beq_eq] at h <;> first | (simp at h; done) | skip
  · -- cells
    obtain ⟨rfl, h2⟩ := h
    simp only [O.Is] at hi ⊢
    rw [← mL_ok t ρ h2]; exact hi
  · -- arr
    obtain ⟨⟨⟨⟨rfl, rfl⟩, rfl⟩, h4⟩, h5⟩ := h
    obtain ⟨g1, cs, g2, g3, g4⟩ := hi
    exact ⟨g1, cs, g2, g3, fun i hi => by rw [g4 i hi, mTr_at t ρ h4 h5]⟩
  · -- vec
    obtain ⟨⟨⟨rfl, rfl⟩, rfl⟩, h4⟩ := h
    obtain ⟨cs, g2, g3, g4, g5, g6, g7⟩ := hi
    have hl := mL_len h4
    have hγ := mL_ok t ρ h4
    refine ⟨cs, g2, g3, g4, g5, by rw [← hl]; exact g6, fun i hi => ?_⟩
    rw [g7 i (by rw [hl]; exact hi), ← γL_get, ← γL_get, hγ]
  · -- varr
    obtain ⟨⟨⟨⟨rfl, rfl⟩, rfl⟩, h4⟩, h5⟩ := h
    obtain ⟨g1, cs, g2, g3, g4, g5, g6⟩ := hi
    exact ⟨g1, cs, g2, g3, g4, g5, fun i hi => by rw [g6 i hi, mTr_at t ρ h4 h5]⟩
  · -- row
    rename_i q z M I l q' z' M' I' l'
    obtain ⟨⟨rfl, rfl⟩, h3⟩ := h
    obtain ⟨g1, g2, g3, g4, g5⟩ := hi
    obtain ⟨s1, s2, s3, s4, s5, s6, s7, s8⟩ := t.s q
    refine ⟨g1.trans s1.symm, by rw [s6, s7, s8]; exact g2, s5.trans g3, by rw [← mE_ok t h3, s3]; exact g4, fun hl => ?_⟩
    obtain ⟨r1, r2, r3, r4⟩ := hr hl
    exact ⟨r1, r2, r3, fun i hi => r4 ρ i hi⟩
  · trivial
theorem ptAll_ok {q : Ev.P → O → Bool} : ∀ (t : PT O) (f : Ev.P → Ev.P) (p : Ev.P) (o : O), ptAll q f t = true → t.get p = some o → q (f p) o = true
  | .e, f, p, o, h, hg => by rw [PT.get_e] at hg; cases hg
  | .n v l r, f, p, o, h, hg => by
    simp only [ptAll, Bool.and_eq_true] at h
    obtain ⟨⟨h1, h2⟩, h3⟩ := h
    cases p with
    | h =>
      have hg : v = some o := hg
      rw [hg] at h1; exact h1
    | o p => exact ptAll_ok l (fun p => f (.o p)) p o h2 hg
    | i p => exact ptAll_ok r (fun p => f (.i p)) p o h3 hg
theorem allB_ok {α : Type} {p : α → Bool} : ∀ {l : List α}, allB p l = true → ∀ x ∈ l, p x = true
  | [], _, x, hx => by cases hx
  | a :: r, h, x, hx => by
    obtain ⟨h1, h2⟩ : p a = true ∧ allB p r = true := by
      have h : bc (p a) (allB p r) false = true := h
      cases hp : p a <;> rw [hp] at h
      · cases h
      · exact ⟨rfl, h⟩
    rcases List.mem_cons.1 hx with rfl | hx
    · exact h1
    · exact allB_ok h2 x hx
/-- a frame, told by its entries -/
def FrL (E : Env) (ρ : Rho) (n : Nat) (l : List (Ky × V)) (tmps : Array Value) : Prop := ∀ t v, (keyOf t, v) ∈ l → tmps[t]? = some (v.γ E ρ) ∧ v.bd n
theorem frOf_go : ∀ (l : List (Ky × V)) (fr : Fr) (k : Fr → Nat), lRec (fun fr k => k fr) (fun (p : Ky × V) _ ih fr k => pc p (fun q v => setF q fr v (fun fr => ih fr k))) l fr k = 0 → ∃ fr', k fr' = 0 ∧ ∀ q v, fr'.get q = some v → (q, v) ∈ l ∨ fr.get q = some v
  | [], fr, k, h => ⟨fr, h, fun q v hv => .inr hv⟩
  | (q0, v0) :: r, fr, k, h => by
    have h : setF q0 fr v0 (fun fr => lRec (fun fr k => k fr) (fun (p : Ky × V) _ ih fr k => pc p (fun q v => setF q fr v (fun fr => ih fr k))) r fr k) = 0 := h
    obtain ⟨fr1, h, g1, g2⟩ := setF_ok h
    obtain ⟨fr', h1, h2⟩ := frOf_go r fr1 k h
    refine ⟨fr', h1, fun q v hv => ?_⟩
    rcases h2 q v hv with h3 | h3
    · exact .inl (List.mem_cons_of_mem _ h3)
    · by_cases hq : q = q0
      · subst hq
        rw [g1] at h3
        cases h3
        exact .inl (List.mem_cons_self ..)
      · rw [g2 q hq] at h3; exact .inr h3
theorem frOf_ok {l : List (Ky × V)} {k : Fr → Nat} (h : frOf l k = 0) : ∃ fr, k fr = 0 ∧ ∀ q v, fr.get q = some v → (q, v) ∈ l := by
  obtain ⟨fr, h1, h2⟩ := frOf_go l .e k h
  refine ⟨fr, h1, fun q v hv => ?_⟩
  rcases h2 q v hv with h3 | h3
  · exact h3
  · rw [Fr.get_e] at h3; cases h3
/-- what is kept of the world in which the law began -/
structure Wd (w0 : World) (Lo : Ev.P) (ρ : Rho) (h : H) (w : World) : Prop where
  lo : h.lo = Lo
  os : w.os = w0.os
  tape : w.tape = w0.tape
  output : w.output = w0.output
  size : w0.heap.size ≤ w.heap.size
  keep : ∀ b, b < w0.heap.size → w.heap[b]? = w0.heap[b]?
  new : ∀ p o, h.t.get p = some o → o.live = true → Lo.toNat ≤ p.toNat → w0.heap.size ≤ (ρ p).b
theorem Wd.step {w0 : World} {lo : Ev.P} {ρ ρ' : Rho} {h h' : H} {w w' : World} (d : Wd w0 lo ρ h w) (x : Ext ρ h w ρ' h' w') : Wd w0 lo ρ' h' w' := by
  refine ⟨x.lo.trans d.lo, x.os.trans d.os, x.tape.trans d.tape, x.output.trans d.output, Nat.le_trans d.size x.size, fun b hb => ?_, fun p o hp hl hlo => ?_⟩
  · rw [x.keep b (Nat.lt_of_lt_of_le hb d.size) (fun p o hp hl hlo => by have := d.new p o hp hl (by rw [← d.lo]; exact hlo); omega)]
    exact d.keep b hb
  · by_cases hn : p.toNat < h.n.toNat
    · obtain ⟨o', h1, h2⟩ := x.liv p o hn hp hl
      rw [x.agree p hn]; exact d.new p o' h1 h2 hlo
    · rcases x.new p o (by omega) hp hl with h1 | ⟨q, o', h1, h2, h3, h4⟩
      · exact Nat.le_trans d.size h1
      · rw [← h4]; exact d.new q o' h1 h2 (by rw [← d.lo]; exact h3)
theorem match_ok {S : GS} {σ : Sg} {fr : Fr} {h : H} (hm : matchB S σ fr h = true) (t : TrE σ E E') (hrow : ∀ p o, S.h.t.get p = some o → RowEl E' o) {w0 : World} {lo : Ev.P} {ρ : Rho} {w : World} {tmps : Array Value} (d : Wd w0 lo ρ h w) (hs : Sat E ρ h w) (hf : FrOk E ρ h.n.toNat fr tmps) :
    Wd w0 lo ρ S.h w ∧ Sat E' ρ S.h w ∧ FrL E' ρ S.h.n.toNat S.fr tmps := by
  unfold matchB at hm
  rw [hc_eq, hc_eq] at hm
  simp only [Bool.and_eq_true] at hm
  obtain ⟨⟨hlo, hfr⟩, hh⟩ := hm
  have hlo := pEq_ok hlo
  have obj : ∀ p o, S.h.t.get p = some o → p.toNat < S.h.n.toNat ∧ o.bd S.h.n.toNat ∧ ∃ u, h.t.get p = some u ∧ mO σ o u = true := by
    intro p o hp
    have := ptAll_ok _ _ p o hh hp
    simp only [Bool.and_eq_true] at this
    obtain ⟨⟨h1, h2⟩, h3⟩ := this
    refine ⟨by simpa [pLt] using h1, oBd_ok h2, ?_⟩
    cases hu : h.t.get p with
    | none => rw [hu] at h3; cases h3
    | some u => rw [hu] at h3; exact ⟨u, rfl, h3⟩
  refine ⟨⟨hlo.trans d.lo, d.os, d.tape, d.output, d.size, d.keep, fun p o hp hl hl2 => ?_⟩, ⟨fun p o hp => ?_, fun p q o o' hp hq l1 l2 he => ?_, fun p o hp => ⟨(obj p o hp).1, (obj p o hp).2.1⟩⟩, fun t' v hv => ?_⟩
  · obtain ⟨_, _, u, hu, hm⟩ := obj p o hp
    exact d.new p u hu (by rw [mO_live hm]; exact hl) hl2
  · obtain ⟨_, _, u, hu, hm⟩ := obj p o hp
    exact mO_is t hm (hrow p o hp) (hs.obj p u hu)
  · obtain ⟨_, _, u, hu, hm⟩ := obj p o hp
    obtain ⟨_, _, u', hu', hm'⟩ := obj q o' hq
    exact hs.inj p q u u' hu hu' (by rw [mO_live hm]; exact l1) (by rw [mO_live hm']; exact l2) he
  · have := allB_ok hfr _ hv
    simp only [Bool.and_eq_true] at this
    obtain ⟨h1, h2⟩ := this
    cases hu : fr.get (keyOf t') with
    | none => rw [hu] at h2; cases h2
    | some u =>
      rw [hu] at h2
      obtain ⟨h3, _⟩ := hf t' u hu
      exact ⟨by rw [h3, mV_ok t ρ h2], bdB_ok v h1⟩
/-! the loop -/
/-- a continuation that ends well -/
def GoodE (E : Env) (P : Program) (N : Nat) (w0 : World) (lo : Ev.P) (ko : K2) (QQ : Exit → Act → World → Prop) : Prop :=
  ∀ ae fr h fa, ko ae fr h fa = 0 → FaOk E fa → ∀ ρ w (a : Act), Wd w0 lo ρ h w → Sat E ρ h w → FrOk E ρ h.n.toNat fr a.tmps → N ≤ a.tmps.size → a.defers = [] → QQ (AE.exit' ae) a w
def zPost (P : Program) : ZC → (Exit → Act → World → Prop) → Exit → Act → World → Prop
  | .hole, QQ => QQ
  | .seqL z b, QQ => zPost P z (Exit.then (b.wp P QQ) QQ)
  | .seqR _ z, QQ => zPost P z QQ
  | .block i z, QQ => zPost P z (Exit.inBlock i QQ)
theorem seq_good {Y : Ty} (hY : TyOk P Y) (hm : P.follows .mixedOrders = true) {dr : Nat → Option Dr} {g : Ctx} (hcall : CallOk E P g.call) {b : Code} (hB : drawB dr b = true) {w0 : World} {lo : Ev.P} {ko : K2} {QQ : Exit → Act → World → Prop} (h : GoodE E P N w0 lo ko QQ) :
    GoodE E P N w0 lo (kSeq (cCode Y N dr b) g ko) (Exit.then (b.wp P QQ) QQ) := by
  intro ae fr hh fa hk hfa ρ w a d hs hf hN hd
  cases ae with
  | normal =>
    obtain ⟨ae, fr1, h1, fa1, hk1, hfa1, r1⟩ := codeT_run hY hm hcall b fr hh fa ko hB hfa hk
    refine r1 ρ w a QQ hs hf hN hd ?_
    rintro a' w' ⟨ρ', f1, n1, d1, s1, x1⟩
    exact h ae fr1 h1 fa1 hk1 hfa1 ρ' w' a' (d.step x1) s1 f1 n1 d1
  | ret => exact h .ret fr hh fa hk hfa ρ w a d hs hf hN hd
  | exit i => exact h (.exit i) fr hh fa hk hfa ρ w a d hs hf hN hd
theorem blk_good {i : Nat} {w0 : World} {lo : Ev.P} {ko : K2} {QQ : Exit → Act → World → Prop} (h : GoodE E P N w0 lo ko QQ) : GoodE E P N w0 lo (kBlk i ko) (Exit.inBlock i QQ) := by
  intro ae fr hh fa hk hfa ρ w a d hs hf hN hd
  cases ae with
  | normal => exact h .normal fr hh fa hk hfa ρ w a d hs hf hN hd
  | ret => exact h .ret fr hh fa hk hfa ρ w a d hs hf hN hd
  | exit j =>
    have hk : bc (Nat.beq j i) (ko .normal fr hh fa) (ko (.exit j) fr hh fa) = 0 := hk
    show Exit.inBlock i QQ (.exit j) a w
    cases hj : Nat.beq j i with
    | true =>
      rw [hj] at hk
      have hj : j = i := by simpa using hj
      simp only [Exit.inBlock, hj, if_true]
      exact h .normal fr hh fa hk hfa ρ w a d hs hf hN hd
    | false =>
      rw [hj] at hk
      have hj : ¬ j = i := by intro e; subst e; simp at hj
      simp only [Exit.inBlock, hj, if_false]
      exact h (.exit j) fr hh fa hk hfa ρ w a d hs hf hN hd
theorem zOut_good {Y : Ty} (hY : TyOk P Y) (hm : P.follows .mixedOrders = true) {dr : Nat → Option Dr} {g : Ctx} (hcall : CallOk E P g.call) {w0 : World} {lo : Ev.P} : ∀ (z : ZC) (ko : K2) (QQ : Exit → Act → World → Prop), z.drB dr = true → GoodE E P N w0 lo ko QQ → GoodE E P N w0 lo (zOut (zGo Y N dr z) g ko) (zPost P z QQ)
  | .hole, ko, QQ, hB, h => h
  | .seqL z b, ko, QQ, hB, h => by
    simp only [ZC.drB, Bool.and_eq_true] at hB
    exact zOut_good hY hm hcall z _ _ hB.1 (seq_good hY hm hcall hB.2 h)
  | .seqR a z, ko, QQ, hB, h => by
    simp only [ZC.drB, Bool.and_eq_true] at hB
    exact zOut_good hY hm hcall z ko QQ hB.2 h
  | .block i z, ko, QQ, hB, h => zOut_good hY hm hcall z _ _ hB (blk_good h)
theorem zIn_run {Y : Ty} (hY : TyOk P Y) (hm : P.follows .mixedOrders = true) {dr : Nat → Option Dr} {g : Ctx} (hcall : CallOk E P g.call) {w0 : World} {lo : Ev.P} {x : Code} {k : K1} : ∀ (z : ZC) (fr : Fr) (h : H) (fa : Fa) (ko : K2) (QQ : Exit → Act → World → Prop), z.drB dr = true → zIn (zGo Y N dr z) g fr h fa k ko = 0 → FaOk E fa → GoodE E P N w0 lo ko QQ →
    (∀ fr' h' fa', k fr' h' fa' = 0 → FaOk E fa' → ∀ ρ' w' (a' : Act), Wd w0 lo ρ' h' w' → Sat E ρ' h' w' → FrOk E ρ' h'.n.toNat fr' a'.tmps → N ≤ a'.tmps.size → a'.defers = [] → x.wp P (zPost P z QQ) a' w') →
    ∀ ρ w (a : Act), Wd w0 lo ρ h w → Sat E ρ h w → FrOk E ρ h.n.toNat fr a.tmps → N ≤ a.tmps.size → a.defers = [] → (z.plug x).wp P QQ a w
  | .hole, fr, h, fa, ko, QQ, hB, hk, hfa, hko, hx, ρ, w, a, d, hs, hf, hN, hd => hx fr h fa hk hfa ρ w a d hs hf hN hd
  | .seqL z b, fr, h, fa, ko, QQ, hB, hk, hfa, hko, hx, ρ, w, a, d, hs, hf, hN, hd => by
    simp only [ZC.drB, Bool.and_eq_true] at hB
    exact wp_seq (zIn_run hY hm hcall z fr h fa _ _ hB.1 hk hfa (seq_good hY hm hcall hB.2 hko) hx ρ w a d hs hf hN hd)
  | .seqR b z, fr, h, fa, ko, QQ, hB, hk, hfa, hko, hx, ρ, w, a, d, hs, hf, hN, hd => by
    simp only [ZC.drB, Bool.and_eq_true] at hB
    obtain ⟨ae, fr1, h1, fa1, hk1, hfa1, r1⟩ := codeT_run hY hm hcall b fr h fa _ hB.1 hfa hk
    refine wp_seq (r1 ρ w a _ hs hf hN hd ?_)
    rintro a' w' ⟨ρ', f1, n1, d1, s1, x1⟩
    cases ae with
    | normal => exact zIn_run hY hm hcall z fr1 h1 fa1 ko QQ hB.2 hk1 hfa1 hko hx ρ' w' a' (d.step x1) s1 f1 n1 d1
    | ret => exact hko .ret fr1 h1 fa1 hk1 hfa1 ρ' w' a' (d.step x1) s1 f1 n1 d1
    | exit i => exact hko (.exit i) fr1 h1 fa1 hk1 hfa1 ρ' w' a' (d.step x1) s1 f1 n1 d1
  | .block i z, fr, h, fa, ko, QQ, hB, hk, hfa, hko, hx, ρ, w, a, d, hs, hf, hN, hd =>
    wp_block (zIn_run hY hm hcall z fr h fa _ _ hB hk hfa (blk_good hko) hx ρ w a d hs hf hN hd)
theorem rounds_mono {x : Code} {QQ : Exit → Act → World → Prop} : ∀ {n m : Nat} (a : Act) (w : World), n ≤ m → Code.rounds P x QQ n a w → Code.rounds P x QQ m a w
  | 0, m, a, w, h, hr => hr.elim
  | n + 1, 0, a, w, h, hr => by omega
  | n + 1, m + 1, a, w, h, hr => by
    rw [rounds_succ] at hr ⊢
    refine Go.wp_mono hr fun e a' w' hq => ?_
    cases e with
    | normal => exact rounds_mono a' w' (by omega) hq
    | _ => exact hq
theorem nextK_ok {st : Nat → GS} {nx : List (Nat × Sg)} {fr : Fr} {h : H} (hk : nextK st nx fr h = 0) : nx ≠ [] ∧ ∀ p ∈ nx, matchB (st p.1) p.2 fr h = true := by
  cases nx with
  | nil => exact absurd (show (1 : Nat) = 0 from hk) (by simp)
  | cons p r =>
    obtain ⟨h1, _⟩ := bc_ok (show bc (allB (fun p : Nat × Sg => matchB (st p.1) p.2 fr h) (p :: r)) 0 1 = 0 from hk) (by simp)
    exact ⟨by simp, allB_ok h1⟩
/-- where a step may lead -/
def Leads (st : Nat → GS) (Inv : Nat → Nat → Env → Prop) (E : Env) (nx : List (Nat × Sg)) (m : Nat) : Prop :=
  nx ≠ [] → ∃ j' σ m' E', (j', σ) ∈ nx ∧ m' < m ∧ Inv m' j' E' ∧ TrE σ E E' ∧ ∀ p o, (st j').h.t.get p = some o → RowEl E' o
theorem graph_rounds {Y : Ty} (hY : TyOk P Y) (hm : P.follows .mixedOrders = true) {dr : Nat → Option Dr} {w0 : World} {lo : Ev.P} {z : ZC} {x : Code} {ko : K2} {QQ : Exit → Act → World → Prop} {st : Nat → GS} {gj : Nat → Ctx} {Inv : Nat → Nat → Env → Prop}
    (hcall : ∀ m j E, Inv m j E → CallOk E P (gj j).call) (hko : ∀ E, GoodE E P N w0 lo ko QQ) (hB : drawB dr x = true) (hBz : z.drB dr = true)
    (round : ∀ m j E, Inv m j E → ∃ fa nx, FaOk E fa ∧ runJ st (cCode Y N dr x) (zGo Y N dr z) ko (gj j) j fa nx = 0 ∧ Leads st Inv E nx m) :
    ∀ m j E, Inv m j E → ∀ ρ w (a : Act), Wd w0 lo ρ (st j).h w → Sat E ρ (st j).h w → FrL E ρ (st j).h.n.toNat (st j).fr a.tmps → N ≤ a.tmps.size → a.defers = [] → Code.rounds P x (zPost P z QQ) (m + 1) a w := by
  intro m
  induction m using Nat.strongRecOn with
  | _ m ih =>
    intro j E hI ρ w a d hs hf hN hd
    obtain ⟨fa, nx, hfa, hr, hl⟩ := round m j E hI
    obtain ⟨fr, hr, hfr⟩ := frOf_ok hr
    have hf' : FrOk E ρ (st j).h.n.toNat fr a.tmps := fun t v hv => hf t v (hfr _ v hv)
    obtain ⟨ae, fr1, h1, fa1, hk1, hfa1, r1⟩ := codeT_run hY hm (hcall m j E hI) x fr (st j).h fa _ hB hfa hr
    rw [rounds_succ]
    refine r1 ρ w a _ hs hf' hN hd ?_
    rintro a' w' ⟨ρ', f1, n1, d1, s1, x1⟩
    cases ae with
    | normal =>
      obtain ⟨hne, hall⟩ := nextK_ok (show nextK st nx fr1 h1 = 0 from hk1)
      obtain ⟨j', σ, m', E', hmem, hlt, hI', ht, hrow⟩ := hl hne
      obtain ⟨d2, s2, f2⟩ := match_ok (hall _ hmem) ht hrow (d.step x1) s1 f1
      exact rounds_mono a' w' (by omega) (ih m' hlt j' E' hI' ρ' w' a' d2 s2 f2 n1 d1)
    | ret => exact zOut_good hY hm (hcall m j E hI) z ko QQ hBz (hko E) .ret fr1 h1 fa1 hk1 hfa1 ρ' w' a' (d.step x1) s1 f1 n1 d1
    | exit i => exact zOut_good hY hm (hcall m j E hI) z ko QQ hBz (hko E) (.exit i) fr1 h1 fa1 hk1 hfa1 ρ' w' a' (d.step x1) s1 f1 n1 d1
/-- a law's end -/
def koB (rs : List IR) : K2 := fun e fr h fa => aeGo e (resT rs fr h (fun v => bc (V.beq v (.b true)) 0 1) 1) (resT rs fr h (fun v => bc (V.beq v (.b true)) 0 1) 1) (fun _ => 1)
theorem koB_good {Y : Ty} (hY : TyOk P Y) {f : Func} {rs : List IR} (hrs : cRes Y f.results.toList = some rs) (w0 : World) (lo : Ev.P) (E : Env) :
    GoodE E P N w0 lo (koB rs) (bodyPost P f (fun e w' => e = .returned (.bool true) ∧ Below w0.heap.size w0 w')) := by
  intro ae fr h fa hk hfa ρ w a d hs hf hN hd
  have fin : resT rs fr h (fun v => bc (V.beq v (.b true)) 0 1) 1 = 0 → bodyPost P f (fun e w' => e = .returned (.bool true) ∧ Below w0.heap.size w0 w') .ret a w := by
    intro hr
    obtain ⟨vs, hvs, hr⟩ := oc_ok (show oc (resVs fr h rs) _ _ = 0 from hr) (by simp)
    obtain ⟨e1, b1⟩ := results_run hY hrs hs hf hvs
    have hv : vs = [.b true] := by
      match vs, hr with
      | [], hr =>
        obtain ⟨h1, _⟩ := bc_ok (show bc (V.beq (.tup []) (.b true)) 0 1 = 0 from hr) (by simp)
        cases V.beq_ok h1
      | [v], hr =>
        obtain ⟨h1, _⟩ := bc_ok (show bc (V.beq v (.b true)) 0 1 = 0 from hr) (by simp)
        rw [V.beq_ok h1]
      | x :: y :: r, hr =>
        obtain ⟨h1, _⟩ := bc_ok (show bc (V.beq (.tup (x :: y :: r)) (.b true)) 0 1 = 0 from hr) (by simp)
        cases V.beq_ok h1
    subst hv
    refine ⟨hd, .bool true, ?_, rfl, d.os, d.tape, d.output, d.size, d.keep⟩
    simpa [γL, V.γ] using e1
  cases ae with
  | normal => exact fin hk
  | ret => exact fin hk
  | exit i => exact absurd (show (1 : Nat) = 0 from hk) (by simp)
/-- the whole law -/
theorem graph_law {Y : Ty} (hY : TyOk P Y) (hm : P.follows .mixedOrders = true) {dr : Nat → Option Dr} {F : Nat} {f : Func} {z : ZC} {x : Code} {rs : List IR} (hfn : P.funcs[F]? = some f) (hb : f.body = some (z.plug (.loop x))) (hrs : cRes Y f.results.toList = some rs)
    {st : Nat → GS} {gj : Nat → Ctx} {Inv : Nat → Nat → Env → Prop} (hcall : ∀ m j E, Inv m j E → CallOk E P (gj j).call) (hB : drawB dr x = true) (hBz : z.drB dr = true)
    (round : ∀ m j E, Inv m j E → ∃ fa nx, FaOk E fa ∧ runJ st (cCode Y f.ntmps dr x) (zGo Y f.ntmps dr z) (koB rs) (gj j) j fa nx = 0 ∧ Leads st Inv E nx m)
    {E : Env} {g0 : Ctx} (h0 : CallOk E P g0.call) {l : List V} {h00 : H} {fa : Fa} (hfa : FaOk E fa) {nx : List (Nat × Sg)} (m : Nat) (hl : Leads st Inv E nx m)
    (hin : initFr l (fun fr => zIn (zGo Y f.ntmps dr z) g0 fr h00 fa (fun fr h _ => nextK st nx fr h) (koB rs)) = 0)
    {ρ : Rho} {w : World} (hs : Sat E ρ h00 w) (hbd : bdL h00.n.toNat l) (hnew : ∀ p o, h00.t.get p = some o → o.live = true → h00.lo.toNat ≤ p.toNat → w.heap.size ≤ (ρ p).b) :
    Calls P F (γL E ρ l).toArray w fun e w' => e = .returned (.bool true) ∧ Below w.heap.size w w' := by
  obtain ⟨fr, hk, hfr⟩ := initFr_ok hin
  refine calls_of_wp hfn hb ?_
  have hf : FrOk E ρ h00.n.toNat fr ((γL E ρ l).toArray ++ Array.replicate (f.ntmps - (γL E ρ l).toArray.size) undef) := by
    intro t v hv
    have h2 := hfr t v hv
    have ht : t < l.length := (List.getElem?_eq_some_iff.1 h2).1
    refine ⟨?_, (bdL_eq _ l).1 hbd v (List.mem_of_getElem? h2)⟩
    rw [Array.getElem?_append_left (by simp [γL_length]; exact ht)]
    simp [γL_get, h2]
  refine zIn_run hY hm h0 (w0 := w) (lo := h00.lo) z fr h00 fa (koB rs) _ hBz hk hfa (koB_good hY hrs w _ E) ?_ ρ w _ ⟨rfl, rfl, rfl, rfl, Nat.le_refl _, fun _ _ => rfl, hnew⟩ hs hf (by simp [γL_length]; omega) rfl
  intro fr' h' fa' hk' hfa' ρ' w' a' d' s' f' n' dd'
  obtain ⟨hne, hall⟩ := nextK_ok hk'
  obtain ⟨j', σ, m', E', hmem, hlt, hI', ht, hrow⟩ := hl hne
  obtain ⟨d2, s2, f2⟩ := match_ok (hall _ hmem) ht hrow d' s' f'
  exact wp_loop_rounds (m' + 1) (graph_rounds hY hm hcall (koB_good hY hrs w _) hB hBz round m' j' E' hI' ρ' w' a' d2 s2 f2 n' dd')
end Go.Ev
end
/-
  Laws that loop: the frame around the rule.
-/
set_option linter.unusedSimpArgs false
set_option linter.unusedVariables false
noncomputable section
namespace Go.Ev
open Go Go.RowKit
variable {E : Env} {P : Program}
/-- the first loop, what stands around it -/
def zipL : Code → Option (ZC × Code)
  | .seq a b => match zipL a with
    | some (z, x) => some (.seqL z b, x)
    | none => match zipL b with
      | some (z, x) => some (.seqR a z, x)
      | none => none
  | .block i a => match zipL a with
    | some (z, x) => some (.block i z, x)
    | none => none
  | .loop x => some (.hole, x)
  | _ => none
theorem zipL_ok : ∀ {c : Code} {z : ZC} {x : Code}, zipL c = some (z, x) → c = z.plug (.loop x)
  | .seq a b, z, x, h => by
    simp only [zipL] at h
    split at h
    · rename_i z' x' h1
      simp at h
      obtain ⟨rfl, rfl⟩ := h
      rw [zipL_ok h1]; rfl
    · split at h
      · rename_i z' x' h1
        simp at h
        obtain ⟨rfl, rfl⟩ := h
        rw [zipL_ok h1]; rfl
      · simp at h
  | .block i a, z, x, h => by
    simp only [zipL] at h
    split at h
    · rename_i z' x' h1
      simp at h
      obtain ⟨rfl, rfl⟩ := h
      rw [zipL_ok h1]; rfl
    · simp at h
  | .loop a, z, x, h => by
    simp [zipL] at h
    obtain ⟨rfl, rfl⟩ := h
    rfl
  | .skip, _, _, h => by simp [zipL] at h
  | .region .., _, _, h => by simp [zipL] at h
  | .cond .., _, _, h => by simp [zipL] at h
  | .rangeFunc .., _, _, h => by simp [zipL] at h
  | .exit .., _, _, h => by simp [zipL] at h
  | .scope .., _, _, h => by simp [zipL] at h
  | .label .., _, _, h => by simp [zipL] at h
  | .goto .., _, _, h => by simp [zipL] at h
  | .ret, _, _, h => by simp [zipL] at h
  | .refuse .., _, _, h => by simp [zipL] at h
theorem plug_drB {dr : Nat → Option Dr} {x : Code} : ∀ {z : ZC}, drawB dr (z.plug (.loop x)) = true → z.drB dr = true ∧ drawB dr x = true
  | .hole, h => ⟨rfl, h⟩
  | .seqL z b, h => by
    simp only [ZC.plug, drawB, Bool.and_eq_true] at h
    obtain ⟨h1, h2⟩ := plug_drB h.1
    exact ⟨by simp only [ZC.drB, Bool.and_eq_true]; exact ⟨h1, h.2⟩, h2⟩
  | .seqR a z, h => by
    simp only [ZC.plug, drawB, Bool.and_eq_true] at h
    obtain ⟨h1, h2⟩ := plug_drB h.2
    exact ⟨by simp only [ZC.drB, Bool.and_eq_true]; exact ⟨h.1, h1⟩, h2⟩
  | .block i z, h => plug_drB (z := z) h
/-- a law made ready, cut at its loop -/
structure CutX where
  z : ZI
  x : IC
  rs : List IR
def cutX (Y : Ty) (dr : Nat → Option Dr) (f : Func) : Option CutX := match f.body, cRes Y f.results.toList with
  | some c, some rs => match zipL c with
    | some (z, x) => some ⟨zGo Y f.ntmps dr z, cCode Y f.ntmps dr x, rs⟩
    | none => none
  | _, _ => none
theorem cut_law {Y : Ty} (hY : TyOk P Y) (hm : P.follows .mixedOrders = true) {dr : Nat → Option Dr} {F : Nat} {f : Func} {q : CutX} (hfn : P.funcs[F]? = some f) (hc : cutX Y dr f = some q) (hw : drawF dr f = true)
    {st : Nat → GS} {gj : Nat → Ctx} {Inv : Nat → Nat → Env → Prop} (hcall : ∀ m j E, Inv m j E → CallOk E P (gj j).call)
    (round : ∀ m j E, Inv m j E → ∃ fa nx, FaOk E fa ∧ runJ st q.x q.z (koB q.rs) (gj j) j fa nx = 0 ∧ Leads st Inv E nx m)
    {E : Env} {g0 : Ctx} (h0 : CallOk E P g0.call) {l : List V} {h00 : H} {fa : Fa} (hfa : FaOk E fa) {nx : List (Nat × Sg)} (m : Nat) (hl : Leads st Inv E nx m)
    (hin : initFr l (fun fr => zIn q.z g0 fr h00 fa (fun fr h _ => nextK st nx fr h) (koB q.rs)) = 0)
    {ρ : Rho} {w : World} (hs : Sat E ρ h00 w) (hbd : bdL h00.n.toNat l) (hnew : ∀ p o, h00.t.get p = some o → o.live = true → h00.lo.toNat ≤ p.toNat → w.heap.size ≤ (ρ p).b) :
    Calls P F (γL E ρ l).toArray w fun e w' => e = .returned (.bool true) ∧ Below w.heap.size w w' := by
  unfold cutX at hc
  split at hc
  rotate_left
  · simp at hc
  rename_i c rs hb hrs
  split at hc
  rotate_left
  · simp at hc
  rename_i z x hz
  simp at hc; subst hc
  have hcz := zipL_ok hz
  subst hcz
  unfold drawF at hw
  rw [hb] at hw
  obtain ⟨hB1, hB2⟩ := plug_drB hw
  exact graph_law hY hm hfn hb hrs hcall hB2 hB1 round h0 hfa m hl hin hs hbd hnew
/-- no foreign slices among the things -/
def rowless (h : H) : Bool := hc h (fun _ _ t => ptAll (fun _ o => match o with
  | .row .. => false
  | _ => true) (fun p => p) t)
theorem rowless_ok {h : H} (hr : rowless h = true) (E : Env) : ∀ p o, h.t.get p = some o → RowEl E o := by
  intro p o hp
  unfold rowless at hr
  rw [hc_eq] at hr
  have := ptAll_ok _ _ p o hr hp
  cases o <;> first | trivial | (simp at this; done)
/-- the symbols told anew -/
def anew (σ : Sg) (E : Env) : Env := ⟨fun i => match σ i with
  | some s => s.den E
  | none => 0, E.b, E.s⟩
theorem anew_tr (σ : Sg) (E : Env) : TrE σ E (anew σ E) := ⟨fun i s h => by simp [anew, h], rfl, fun q => ⟨rfl, rfl, rfl, rfl, rfl, rfl, rfl, rfl⟩⟩
end Go.Ev
end
/-
  Calls whose value is known whatever the heap; which of n things a raw number speaks of.
-/
set_option linter.unusedSimpArgs false
set_option linter.unusedVariables false
noncomputable section
namespace Go.Ev
open Go Go.RowKit
variable {E : Env} {P : Program}
/-- a call that leaves what there is as it is -/
def pureS (F : Nat) (l : List V) (v : V) (inner : CallT) : CallT := fun G l' h fa k => bc (Nat.beq G F) (bc (vlBeq l' l) (k v h fa) (inner G l' h fa k)) (inner G l' h fa k)
theorem pureS_ok {F : Nat} {l : List V} {v : V} {inner : CallT} (hca : Callable P F) (hv : v.bd 0) (hc : ∀ (ρ : Rho) (w : World), Calls P F (γL E ρ l).toArray w fun e w' => e = .returned (v.γ E ρ) ∧ Below w.heap.size w w') (hi : CallOk E P inner) :
    CallOk E P (pureS F l v inner) := by
  intro G l' h fa k hk hfa
  unfold pureS at hk
  cases e1 : Nat.beq G F with
  | false => rw [e1] at hk; exact hi _ _ _ _ _ hk hfa
  | true =>
    rw [e1] at hk
    have hk1 : bc (vlBeq l' l) (k v h fa) (inner G l' h fa k) = 0 := hk
    cases e2 : vlBeq l' l with
    | false => rw [e2] at hk1; exact hi _ _ _ _ _ hk1 hfa
    | true =>
      rw [e2] at hk1
      have hk2 : k v h fa = 0 := hk1
      clear hk hk1
      have e1 : G = F := by simpa using e1
      have e2 := vlBeq_ok e2
      subst e1; subst e2
      refine ⟨hca, v, h, fa, hk2, hfa, fun ρ w hb hs => (hc ρ w).mono ?_⟩
      rintro e w' ⟨he, hb'⟩
      refine ⟨ρ, he, ⟨fun p o hp => O.Is_heap E (fun hl => hb'.block _ (hs.lt E hp hl)) (hs.obj p o hp), hs.inj, hs.bd⟩, ?_, bd_mono (Nat.zero_le _) v hv⟩
      exact ⟨Nat.le_refl _, rfl, fun _ _ => rfl, fun p o h1 h2 => by have := (hs.bd p o h2).1; omega, hb'.os, hb'.tape, hb'.output, hb'.size, fun b hb _ => hb'.block b hb, fun _ _ _ => rfl, fun p o _ h1 h2 => ⟨o, h1, h2⟩⟩
theorem satNil {E : Env} (ρ : Rho) (w : World) : Sat E ρ ⟨.h, .h, .e⟩ w :=
  ⟨fun p o hp => absurd (show (none : Option O) = some o from (PT.get_e p).symm.trans hp) (by simp), fun p q o o' hp => absurd (show (none : Option O) = some o from (PT.get_e p).symm.trans hp) (by simp),
   fun p o hp => absurd (show (none : Option O) = some o from (PT.get_e p).symm.trans hp) (by simp)⟩
theorem extBelow {ρ ρ' : Rho} {h' : H} {w w' : World} (x : Ext ρ ⟨.h, .h, .e⟩ w ρ' h' w') : Below w.heap.size w w' :=
  ⟨x.os, x.tape, x.output, x.size, fun b hb => x.keep b hb fun p o hp => absurd (show (none : Option O) = some o from (PT.get_e p).symm.trans hp) (by simp)⟩
def endV (v : V) : K := fun u _ _ => bc (V.beq u v) 0 1
/-- what a run that ends with a value gives -/
theorem val_of_run {Y : Ty} {C : Cx} (hx : CxOk E P Y C) {F : Nat} {l : List V} {fa : Fa} {inner : CallT} (hi : CallOk E P inner) (hfa : FaOk E fa) {v : V} (hr : callS C 0 inner F l ⟨.h, .h, .e⟩ fa (endV v) = 0) (hl : bdL 1 l) (ρ : Rho) (W : World) :
    Calls P F (γL E ρ l).toArray W fun e w' => (∃ ρ', e = .returned (v.γ E ρ')) ∧ Below W.heap.size W w' := by
  obtain ⟨_, u, h', fa', hk, _, hc⟩ := callS_run hx 0 hi _ _ _ _ _ hr hfa
  obtain ⟨hv, _⟩ := bc_ok (show bc (V.beq u v) 0 1 = 0 from hk) (by simp)
  have hv := V.beq_ok hv
  subst hv
  refine (hc ρ W hl (satNil _ W)).mono ?_
  rintro e w' ⟨ρ', rfl, _, x, _⟩
  exact ⟨⟨ρ', rfl⟩, extBelow x⟩
/-- which of n -/
def pickI (c n : Int) : Int := (if c < 0 then -(c + 1) else c) % n
theorem pickI_lt {c n : Int} (hn : 0 < n) : 0 ≤ pickI c n ∧ pickI c n < n := ⟨Int.emod_nonneg _ (by omega), Int.emod_lt_of_pos _ hn⟩
/-- its contract, of two runs: of a number that is none below zero, and of one that is -/
theorem pick_c {Y : Ty} {C : Cx} {F : Nat} {n : Int} (S : Nat → Row) (hx : ∀ E : Env, E.s = S → CxOk E P Y C) {inner : CallT} (hi : ∀ E : Env, E.s = S → CallOk E P inner)
    (h0 : callS C 0 inner F [.si .i64 (.v 0), .i .i64 n] ⟨.h, .h, .e⟩ ⟨[(.cmp .lss (.v 0) (.lit 0), false)], []⟩ (endV (.si .i64 (.op .rem .i64 (.v 0) (.lit n)))) = 0)
    (h1 : callS C 0 inner F [.si .i64 (.v 0), .i .i64 n] ⟨.h, .h, .e⟩ ⟨[(.cmp .lss (.v 0) (.lit 0), true)], []⟩ (endV (.si .i64 (.op .rem .i64 (.op .sub .i64 (.lit 0) (.op .add .i64 (.v 0) (.lit 1))) (.lit n)))) = 0)
    {c : Int} (hc : -9223372036854775808 ≤ c ∧ c ≤ 9223372036854775807) (W : World) :
    Calls P F #[.int .i64 c, .int .i64 n] W fun e w' => e = .returned (.int .i64 (pickI c n)) ∧ Below W.heap.size W w' := by
  obtain ⟨E, hE⟩ : ∃ E : Env, E = ⟨fun _ => c, fun _ => false, S⟩ := ⟨_, rfl⟩
  have hS : E.s = S := by rw [hE]
  have hEi : E.i 0 = c := by rw [hE]
  have fa1 : ∀ b : Bool, decide (c < 0) = b → FaOk E ⟨[(.cmp .lss (.v 0) (.lit 0), b)], []⟩ := fun b hb => by
    refine ⟨fun d x hm => ?_, fun _ _ _ hm => by cases hm⟩
    rcases List.mem_cons.1 hm with e | hm
    · cases e
      show iLt (E.i 0) 0 = _
      rw [iLt_eq, hEi]; exact hb
    · cases hm
  have hargs : (γL E (fun _ => ⟨0, 0⟩) [.si .i64 (.v 0), .i .i64 n]).toArray = #[.int .i64 c, .int .i64 n] := by
    simp only [γL, V.γ, SE.den, hEi]
  cases hs : decide (c < 0) with
  | false =>
    have hs' := of_decide_eq_false hs
    have h := val_of_run (hx E hS) (hi E hS) (fa1 false hs) h0 ⟨trivial, trivial, trivial⟩ (fun _ => ⟨0, 0⟩) W
    rw [hargs] at h
    refine h.mono ?_
    rintro e w' ⟨⟨ρ', rfl⟩, hb⟩
    refine ⟨?_, hb⟩
    have : SE.den E (.op .rem .i64 (.v 0) (.lit n)) = pickI c n := by
      show (E.i 0).tmod n = _
      rw [hEi, Int.tmod_eq_emod_of_nonneg (by omega), pickI, if_neg hs']
    simp only [V.γ, this]
  | true =>
    have hs' := of_decide_eq_true hs
    have h := val_of_run (hx E hS) (hi E hS) (fa1 true hs) h1 ⟨trivial, trivial, trivial⟩ (fun _ => ⟨0, 0⟩) W
    rw [hargs] at h
    refine h.mono ?_
    rintro e w' ⟨⟨ρ', rfl⟩, hb⟩
    refine ⟨?_, hb⟩
    have : SE.den E (.op .rem .i64 (.op .sub .i64 (.lit 0) (.op .add .i64 (.v 0) (.lit 1))) (.lit n)) = pickI c n := by
      show (wrapF .i64 (0 - wrapF .i64 (E.i 0 + 1))).tmod n = _
      rw [hEi, wrapF_eq, wrapF_eq, IntKind.wrap_i64, IntKind.wrap_i64, pickI, if_pos hs', Int.tmod_eq_emod_of_nonneg (by omega)]
      congr 1
      omega
    simp only [V.γ, this]
theorem pick_pure {Y : Ty} {C : Cx} {F : Nat} {n : Int} (hca : Callable P F) (hx : ∀ E' : Env, E'.s = E.s → CxOk E' P Y C) {inner : CallT} (hi : ∀ E' : Env, E'.s = E.s → CallOk E' P inner)
    (h0 : callS C 0 inner F [.si .i64 (.v 0), .i .i64 n] ⟨.h, .h, .e⟩ ⟨[(.cmp .lss (.v 0) (.lit 0), false)], []⟩ (endV (.si .i64 (.op .rem .i64 (.v 0) (.lit n)))) = 0)
    (h1 : callS C 0 inner F [.si .i64 (.v 0), .i .i64 n] ⟨.h, .h, .e⟩ ⟨[(.cmp .lss (.v 0) (.lit 0), true)], []⟩ (endV (.si .i64 (.op .rem .i64 (.op .sub .i64 (.lit 0) (.op .add .i64 (.v 0) (.lit 1))) (.lit n)))) = 0)
    {a : Nat} {v : V} (hb : -9223372036854775808 ≤ E.i a ∧ E.i a ≤ 9223372036854775807) (hv : v.bd 0) (hval : ∀ ρ, v.γ E ρ = .int .i64 (pickI (E.i a) n)) {rest : CallT} (hr : CallOk E P rest) :
    CallOk E P (pureS F [.si .i64 (.v a), .i .i64 n] v rest) := by
  refine pureS_ok hca hv (fun ρ w => ?_) hr
  refine (pick_c E.s hx hi h0 h1 hb w).mono ?_
  rintro e w' ⟨rfl, hb'⟩
  exact ⟨by rw [hval], hb'⟩
/-- foreign slices of which no element is looked at -/
def rowU (h : H) : Bool := hc h (fun _ _ t => ptAll (fun _ o => match o with
  | .row q z N I l => vlBeq l []
  | _ => true) (fun p => p) t)
theorem rowU_ok {h : H} (hr : rowU h = true) : ∀ p o, h.t.get p = some o → RowEl E o := by
  intro p o hp
  unfold rowU at hr
  rw [hc_eq] at hr
  have := ptAll_ok _ _ p o hr hp
  cases o with
  | row q z N I l => exact fun hne => absurd (vlBeq_ok this) hne
  | _ => trivial
end Go.Ev
end
/-
  Words told in symbols: what a badge comes to where it is packed and unpacked.
-/
set_option linter.unusedSimpArgs false
set_option linter.unusedVariables false
noncomputable section
namespace Go.Ev
open Go
variable {E : Env}
theorem arS_andNot (x y : Nat) (hx : x < 18446744073709551616) (hy : y < 18446744073709551616) : arS .andNot .u64 (x : Int) (y : Int) = ((Nat.xor x (Nat.land x y) : Nat) : Int) := by
  have h1 : Nat.blt x (topOf .u64) = true := by simp [topOf]; omega
  have h2 : Nat.blt y (topOf .u64) = true := by simp [topOf]; omega
  show bitF .u64 (fun a b => Nat.xor a (Nat.land a b)) (fun a b => a &&& ~~~b) (.ofNat x) (.ofNat y) = _
  show bc (Nat.blt x (topOf .u64)) (bc (Nat.blt y (topOf .u64)) (Int.ofNat (Nat.xor x (Nat.land x y))) _) _ = _
  rw [h1, h2]; rfl
theorem den_low {e : SE} {x m : Int} (k : Nat) (hm : m = 2 ^ k - 1) (hk : k < 64) (he : e.den E = x) (h0 : 0 ≤ x) (h1 : x < 18446744073709551616) : SE.den E (.op .and .u64 e (.lit m)) = x % 2 ^ k := by
  show arS .and .u64 (e.den E) m = _
  rw [he, and_mask k hm hk h0 h1]
theorem den_shr {e : SE} {x : Int} (n : Nat) (hn : n ≤ 64) (he : e.den E = x) (h0 : 0 ≤ x) : SE.den E (.op .shr .u64 e (.lit (n : Int))) = x / 2 ^ n := by
  show arS .shr .u64 (e.den E) (n : Int) = _
  rw [he, shr_val n hn h0]
theorem den_shl {e : SE} {x : Int} (n : Nat) (hn : n ≤ 64) (he : e.den E = x) (h0 : 0 ≤ x) (h1 : x * 2 ^ n < 18446744073709551616) : SE.den E (.op .shl .u64 e (.lit (n : Int))) = x * 2 ^ n := by
  show arS .shl .u64 (e.den E) (n : Int) = _
  rw [he, shl_val n hn h0 h1]
theorem den_cvi {e : SE} {x : Int} (he : e.den E = x) (h0 : 0 ≤ x) (h1 : x ≤ 9223372036854775807) : SE.den E (.cv .i64 e) = x := by
  show IntKind.i64.wrap (e.den E) = x
  rw [he, IntKind.wrap_i64]; omega
theorem den_cvu {e : SE} {x : Int} (he : e.den E = x) (h0 : 0 ≤ x) (h1 : x < 18446744073709551616) : SE.den E (.cv .u64 e) = x := by
  show IntKind.u64.wrap (e.den E) = x
  rw [he, IntKind.wrap_u64]; omega
theorem den_or {e f : SE} {x y : Int} (k : Nat) (m : Int) (hx : x = m * 2 ^ k) (hm : 0 ≤ m) (he : e.den E = x) (hf : f.den E = y) (h0 : 0 ≤ y) (h1 : y < 2 ^ k) (hb : x < 18446744073709551616) (hk : k ≤ 64) : SE.den E (.op .or .u64 e f) = x + y := by
  show arS .or .u64 (e.den E) (f.den E) = _
  rw [he, hf, or_add k m hx hm h0 h1 hb hk]
theorem sb_eql {e : SE} {x n : Int} (he : e.den E = x) (h : x = n) : (SB.cmp .eql e (.lit n)).den E = true := by
  show (cmpI .eql (e.den E) n).getD false = true
  rw [he, h]; simp [cmpI, iEq_eq]
theorem sb_neq {e f : SE} {x : Int} (he : e.den E = x) (hf : f.den E = x) : (SB.cmp .neq e f).den E = false := by
  show (cmpI .neq (e.den E) (f.den E)).getD false = false
  rw [he, hf]; simp [cmpI, iEq_eq]
theorem arS_ori (x y : Nat) (hx : x < 9223372036854775808) (hy : y < 9223372036854775808) : arS .or .i64 (x : Int) (y : Int) = ((Nat.lor x y : Nat) : Int) := by
  have h1 : Nat.blt x (topOf .i64) = true := by simp [topOf]; omega
  have h2 : Nat.blt y (topOf .i64) = true := by simp [topOf]; omega
  show bitF .i64 Nat.lor (fun a b => a ||| b) (.ofNat x) (.ofNat y) = _
  show bc (Nat.blt x (topOf .i64)) (bc (Nat.blt y (topOf .i64)) (Int.ofNat (Nat.lor x y)) _) _ = _
  rw [h1, h2]; rfl
theorem low_none (n : Nat) (h : n < 268435456) : Nat.land n 17591917608960 = 0 := by
  show n &&& 17591917608960 = 0
  apply Nat.eq_of_testBit_eq
  intro i
  rw [Nat.testBit_and, Nat.zero_testBit]
  by_cases h28 : 28 ≤ i
  · have : Nat.testBit n i = false := Nat.testBit_lt_two_pow (Nat.lt_of_lt_of_le (show n < 2 ^ 28 by omega) (Nat.pow_le_pow_right (by decide) h28))
    simp [this]
  · have : ∀ j, j < 28 → Nat.testBit 17591917608960 j = false := by decide
    simp [this i (by omega)]
theorem low_all (n : Nat) (h : n < 268435456) : Nat.land n 268435455 = n := by
  have : Nat.land n (2 ^ 28 - 1) = n % 2 ^ 28 := Nat.and_two_pow_sub_one_eq_mod n 28
  rw [show (268435455 : Nat) = 2 ^ 28 - 1 from rfl, this]
  omega
theorem sb_gtr {e : SE} {x n : Int} (he : e.den E = x) (h : n < x) : (SB.cmp .gtr e (.lit n)).den E = true := by
  show (cmpI .gtr (e.den E) n).getD false = true
  rw [he]; simp [cmpI, iLt_eq, h]
theorem sb_lss {e : SE} {x n : Int} (he : e.den E = x) (h : ¬ x < n) : (SB.cmp .lss e (.lit n)).den E = false := by
  show (cmpI .lss (e.den E) n).getD false = false
  rw [he]; simp [cmpI, iLt_eq]; omega
/-- a number that is told as a symbol -/
def sm (i : Nat) (e : SE) : SB × Bool := (.not (.cmp .neq e (.v i)), true)
def sl (e : SE) (n : Int) : SB × Bool := (.cmp .eql e (.lit n), true)
/-- of a badge that is none -/
def bF (i : Nat) : List (SB × Bool) := [(.cmp .geq (.v i) (.lit 0), true), (.cmp .leq (.v i) (.lit 268435455), true), (.cmp .geq (.v i) (.lit 4294967296), false), (.cmp .lss (.v i) (.lit 0), false), (.cmp .gtr (.v i) (.lit 0), true),
  sm i (.op .add .i64 (.lit 0) (.v i)), sm i (.op .add .i64 (.v i) (.lit 0)), sm i (.cv .u64 (.v i)), sm i (.cv .i64 (.v i)), sm i (.op .or .i64 (.lit 0) (.v i)), sm i (.op .or .u64 (.lit 0) (.v i)), sm i (.op .or .u64 (.v i) (.lit 0)), sm i (.op .shl .u64 (.v i) (.lit 0)), sm i (.op .shr .u64 (.v i) (.lit 0)),
  sm i (.op .andNot .u64 (.v i) (.lit 17591917608960)), sm i (.op .and .u64 (.v i) (.lit 268435455)), sl (.op .andNot .u64 (.v i) (.lit 268435455)) 0, sl (.op .and .u64 (.v i) (.lit 17591917608960)) 0, sl (.op .shr .u64 (.v i) (.lit 44)) 0, (.cmp .eql (.v i) (.v i), true), (.cmp .neq (.v i) (.v i), false)]
theorem sm_ok {i : Nat} {e : SE} (h : e.den E = E.i i) : SB.den E (sm i e).1 = (sm i e).2 := by
  have := sb_neq (E := E) (f := .v i) h rfl
  show (!SB.den E (.cmp .neq e (.v i))) = true
  rw [this]; rfl
theorem bF_ok {i : Nat} (h0 : 0 < E.i i) (h1 : E.i i < 268435456) : ∀ c ∈ bF i, SB.den E c.1 = c.2 := by
  obtain ⟨a, ha⟩ := Int.eq_ofNat_of_zero_le (by omega : 0 ≤ E.i i)
  have hv : SE.den E (.v i) = E.i i := rfl
  have ho : ∀ x y : Nat, Nat.lor x y = x ||| y := fun _ _ => rfl
  unfold bF
  simp only [List.mem_cons, List.not_mem_nil, or_false, forall_eq_or_imp, forall_eq]
  refine ⟨?_, ?_, ?_, sb_lss hv (by omega), sb_gtr hv h0, sm_ok ?_, sm_ok ?_, sm_ok (den_cvu hv (by omega) (by omega)), sm_ok (den_cvi hv (by omega) (by omega)), sm_ok ?_, sm_ok ?_, sm_ok ?_, sm_ok ?_, sm_ok ?_, sm_ok ?_, sm_ok ?_, ?_, ?_, ?_, ?_, ?_⟩
  · show iLe 0 (E.i i) = true
    rw [iLe_eq]; exact decide_eq_true (by omega)
  · show iLe (E.i i) 268435455 = true
    rw [iLe_eq]; exact decide_eq_true (by omega)
  · show iLe 4294967296 (E.i i) = false
    rw [iLe_eq]; exact decide_eq_false (by omega)
  · show wrapF .i64 (0 + E.i i) = _
    rw [wrapF_eq, IntKind.wrap_i64]; omega
  · show wrapF .i64 (E.i i + 0) = _
    rw [wrapF_eq, IntKind.wrap_i64]; omega
  · show arS .or .i64 ((0 : Nat) : Int) (E.i i) = _
    rw [ha, arS_ori 0 a (by omega) (by omega), ho, Nat.zero_or]
  · show arS .or .u64 ((0 : Nat) : Int) (E.i i) = _
    rw [ha, arS_or 0 a (by omega) (by omega), ho, Nat.zero_or]
  · show arS .or .u64 (E.i i) ((0 : Nat) : Int) = _
    rw [ha, arS_or a 0 (by omega) (by omega), ho, Nat.or_zero]
  · have := den_shl (E := E) 0 (by decide) hv (by omega) (by simp; omega)
    rw [show E.i i * 2 ^ 0 = E.i i by simp] at this
    exact this
  · have := den_shr (E := E) 0 (by decide) hv (by omega)
    rw [show E.i i / 2 ^ 0 = E.i i by simp] at this
    exact this
  · show arS .andNot .u64 (E.i i) ((17591917608960 : Nat) : Int) = _
    rw [ha, arS_andNot a _ (by omega) (by omega), low_none a (by omega), show Nat.xor a 0 = a from Nat.xor_zero a]
  · show arS .and .u64 (E.i i) ((268435455 : Nat) : Int) = _
    rw [ha, arS_and a _ (by omega) (by omega), low_all a (by omega)]
  · refine sb_eql (x := 0) ?_ rfl
    show arS .andNot .u64 (E.i i) ((268435455 : Nat) : Int) = _
    rw [ha, arS_andNot a _ (by omega) (by omega), low_all a (by omega)]
    simp
  · refine sb_eql (x := 0) ?_ rfl
    show arS .and .u64 (E.i i) ((17591917608960 : Nat) : Int) = _
    rw [ha, arS_and a _ (by omega) (by omega), low_none a (by omega)]
    rfl
  · refine sb_eql (den_shr 44 (by decide) hv (by omega)) ?_
    simp only [show (2 : Int) ^ 44 = 17592186044416 from rfl]
    omega
  · show iEq (E.i i) (E.i i) = true
    rw [iEq_eq]; simp
  · exact sb_neq hv hv
theorem all_app {l m : List (SB × Bool)} (h1 : ∀ c ∈ l, SB.den E c.1 = c.2) (h2 : ∀ c ∈ m, SB.den E c.1 = c.2) : ∀ c ∈ l ++ m, SB.den E c.1 = c.2 := by
  intro c hc
  rcases List.mem_append.1 hc with h | h
  · exact h1 c h
  · exact h2 c h
theorem fa_all {l : List (SB × Bool)} (h : ∀ c ∈ l, SB.den E c.1 = c.2) : FaOk E ⟨l, []⟩ := ⟨fun c b hm => h (c, b) hm, fun _ _ _ hm => by cases hm⟩
theorem sb_lt {a b : SE} {x y : Int} {t : Bool} (ha : a.den E = x) (hb : b.den E = y) (h : decide (x < y) = t) : (SB.cmp .lss a b).den E = t := by
  show iLt (a.den E) (b.den E) = t
  rw [ha, hb, iLt_eq]; exact h
end Go.Ev
end
