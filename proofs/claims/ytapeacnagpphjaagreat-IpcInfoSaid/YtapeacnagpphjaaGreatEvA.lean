/-
  An evaluator of the model's code to be run in the kernel: values with symbols, things in tries, instructions made ready. Definitions alone.
-/
import Derived.Test.YtapeacnagpphjaaGreatEvR
set_option linter.unusedSimpArgs false
set_option linter.unusedVariables false
noncomputable section
namespace Go.Ev
open Go

/-! ### numbers -/
def kNum : IntKind → Nat
  | .i8 => 0 | .i16 => 1 | .i32 => 2 | .i64 => 3 | .u8 => 4 | .u16 => 5 | .u32 => 6 | .u64 => 7
def kEq (a b : IntKind) : Bool := Nat.beq (kNum a) (kNum b)
def oNum : BinOp → Nat
  | .add => 0 | .sub => 1 | .mul => 2 | .quo => 3 | .rem => 4 | .and => 5 | .or => 6 | .xor => 7 | .shl => 8 | .shr => 9 | .andNot => 10
  | .eql => 11 | .neq => 12 | .lss => 13 | .leq => 14 | .gtr => 15 | .geq => 16
def oEq (a b : BinOp) : Bool := Nat.beq (oNum a) (oNum b)
def bitI (k : IntKind) (f : BitVec k.bits → BitVec k.bits → BitVec k.bits) (x y : Int) : Int := k.wrap (f (BitVec.ofInt k.bits x) (BitVec.ofInt k.bits y)).toNat
/-- in its kind's range, as it is; else wrapped -/
def topOf : IntKind → Nat
  | .i64 => 9223372036854775808 | .u64 => 18446744073709551616 | _ => 0
def wrapF (k : IntKind) (n : Int) : Int := intCase n (fun m => bc (Nat.blt m (topOf k)) n (k.wrap n)) (fun _ => k.wrap n)
def iEq (a b : Int) : Bool := intCase a (fun a => intCase b (fun b => Nat.beq a b) (fun _ => false)) (fun a => intCase b (fun _ => false) (fun b => Nat.beq a b))
def iLt (a b : Int) : Bool := intCase a (fun a => intCase b (fun b => Nat.blt a b) (fun _ => false)) (fun a => intCase b (fun _ => true) (fun b => Nat.blt b a))
def iLe (a b : Int) : Bool := intCase a (fun a => intCase b (fun b => Nat.ble a b) (fun _ => false)) (fun a => intCase b (fun _ => true) (fun b => Nat.ble b a))
def cmpI (op : BinOp) (x y : Int) : Option Bool :=
  match op with
  | .eql => some (iEq x y)
  | .neq => some (!iEq x y)
  | .lss => some (iLt x y)
  | .leq => some (iLe x y)
  | .gtr => some (iLt y x)
  | .geq => some (iLe y x)
  | _ => none
/-- of two numbers in their kind's range and not below 0 the bits as they are -/
def bitF (k : IntKind) (g : Nat → Nat → Nat) (f : BitVec k.bits → BitVec k.bits → BitVec k.bits) (x y : Int) : Int :=
  intCase x (fun a => intCase y (fun b => bc (Nat.blt a (topOf k)) (bc (Nat.blt b (topOf k)) (.ofNat (g a b)) (bitI k f x y)) (bitI k f x y)) (fun _ => bitI k f x y)) (fun _ => bitI k f x y)
def arI (op : BinOp) (k : IntKind) (x y : Int) : Option Int :=
  match op with
  | .add => some (wrapF k (x + y))
  | .sub => some (wrapF k (x - y))
  | .mul => some (wrapF k (x * y))
  | .and => some (bitF k Nat.land (fun a b => a &&& b) x y)
  | .or => some (bitF k Nat.lor (fun a b => a ||| b) x y)
  | .xor => some (bitF k Nat.xor (fun a b => a ^^^ b) x y)
  | .andNot => some (bitF k (fun a b => Nat.xor a (Nat.land a b)) (fun a b => a &&& ~~~b) x y)
  | _ => none
def dvI (op : BinOp) (k : IntKind) (x y : Int) : Option Int :=
  match op with
  | .quo => some (wrapF k (x.tdiv y))
  | .rem => some (x.tmod y)
  | _ => none
def shI (op : BinOp) (k : IntKind) (x n : Int) : Option Int :=
  match op with
  | .shl => some (wrapF k (x * 2 ^ (min n.toNat k.bits)))
  | .shr => some (x.fdiv (2 ^ (min n.toNat k.bits)))
  | _ => none
def isCmp : BinOp → Bool
  | .eql | .neq | .lss | .leq | .gtr | .geq => true
  | _ => false
def isAr : BinOp → Bool
  | .add | .sub | .mul | .and | .or | .xor | .andNot => true
  | _ => false
def isShift : BinOp → Bool
  | .shl | .shr => true
  | _ => false
def arS (op : BinOp) (k : IntKind) (x y : Int) : Int :=
  match arI op k x y with
  | some c => c
  | none => match dvI op k x y with
    | some c => c
    | none => (shI op k x y).getD 0

/-! ### symbols -/
inductive SE where
  | v (i : Nat) | lit (n : Int) | op (o : BinOp) (k : IntKind) (a b : SE) | cv (k : IntKind) (a : SE) | mm (mx : Bool) (a b : SE)
inductive SB where
  | v (i : Nat) | cmp (o : BinOp) (a b : SE) | not (a : SB) | and (a b : SB)
structure Env where
  i : Nat → Int
  b : Nat → Bool
def SE.den (E : Env) : SE → Int
  | .v i => E.i i
  | .lit n => n
  | .op o k a b => arS o k (a.den E) (b.den E)
  | .cv k a => k.wrap (a.den E)
  | .mm true a b => if a.den E < b.den E then b.den E else a.den E
  | .mm false a b => if b.den E < a.den E then b.den E else a.den E
def SB.den (E : Env) : SB → Bool
  | .v i => E.b i
  | .cmp o a b => (cmpI o (a.den E) (b.den E)).getD false
  | .not a => !a.den E
  | .and a b => a.den E && b.den E
def SE.beq : SE → SE → Bool
  | .v i, .v j => Nat.beq i j
  | .lit a, .lit b => iEq a b
  | .op o k a b, .op o' k' a' b' => oEq o o' && kEq k k' && SE.beq a a' && SE.beq b b'
  | .cv k a, .cv k' a' => kEq k k' && SE.beq a a'
  | .mm true a b, .mm true a' b' => SE.beq a a' && SE.beq b b'
  | .mm false a b, .mm false a' b' => SE.beq a a' && SE.beq b b'
  | _, _ => false
def SB.beq : SB → SB → Bool
  | .v i, .v j => Nat.beq i j
  | .cmp o a b, .cmp o' a' b' => oEq o o' && SE.beq a a' && SE.beq b b'
  | .not a, .not b => SB.beq a b
  | .and a b, .and a' b' => SB.beq a a' && SB.beq b b'
  | _, _ => false
/-- what is known of the symbols: truths, ranges -/
structure Fa where
  l : List (SB × Bool)
  r : List (Nat × Int × Int)
def rngV : List (Nat × Int × Int) → Nat → Option (Int × Int)
  | [], _ => none
  | (i, a, b) :: r, j => if Nat.beq i j then some (a, b) else rngV r j
def fitsK (k : IntKind) (a b : Int) : Bool :=
  match k with
  | .i64 => decide (-9223372036854775808 ≤ a ∧ b < 9223372036854775808)
  | .u64 => decide (0 ≤ a ∧ b < 18446744073709551616)
  | _ => false
def SE.rng (r : List (Nat × Int × Int)) : SE → Option (Int × Int)
  | .v i => rngV r i
  | .lit n => some (n, n)
  | .op o k x y => match o, x.rng r, y.rng r with
    | .add, some (a, b), some (c, d) => if fitsK k (a + c) (b + d) then some (a + c, b + d) else none
    | .sub, some (a, b), some (c, d) => if fitsK k (a - d) (b - c) then some (a - d, b - c) else none
    | _, _, _ => none
  | .cv k x => match x.rng r with
    | some (a, b) => if fitsK k a b then some (a, b) else none
    | none => none
  | .mm true x y => match x.rng r, y.rng r with
    | some (a, b), some (c, d) => some (max a c, max b d)
    | _, _ => none
  | .mm false x y => match x.rng r, y.rng r with
    | some (a, b), some (c, d) => some (min a c, min b d)
    | _, _ => none
def askR (o : BinOp) (a b c d : Int) : Option Bool :=
  match o with
  | .lss => if decide (b < c) then some true else if decide (d ≤ a) then some false else none
  | .leq => if decide (b ≤ c) then some true else if decide (d < a) then some false else none
  | .gtr => if decide (d < a) then some true else if decide (b ≤ c) then some false else none
  | .geq => if decide (d ≤ a) then some true else if decide (b < c) then some false else none
  | .eql => if decide (b < c) then some false else if decide (d < a) then some false else none
  | .neq => if decide (b < c) then some true else if decide (d < a) then some true else none
  | _ => none
def askF : List (SB × Bool) → SB → Option Bool
  | [], _ => none
  | (s, t) :: r, c => if SB.beq s c then some t else askF r c
def SB.ask (fa : Fa) : SB → Option Bool
  | .v i => askF fa.l (.v i)
  | .not a => (a.ask fa).map (fun x => !x)
  | .and a b => match a.ask fa, b.ask fa with
    | some true, y => y
    | some false, _ => some false
    | none, some false => some false
    | none, _ => none
  | .cmp o a b => match SE.beq a b with
    | true => cmpI o 0 0
    | false => match askF fa.l (.cmp o a b) with
      | some x => some x
      | none => match a.rng fa.r, b.rng fa.r with
        | some (p, q), some (s, t) => askR o p q s t
        | _, _ => none

/-! ### values -/
inductive V where
  | b (x : Bool) | i (k : IntKind) (n : Int) | sb (c : SB) | si (k : IntKind) (e : SE)
  | ptr (id : P) (off : Nat) | nil
  | sl (id : P) (off len cap : Nat) | vec (id : P) (n : Nat) | snil
  | fn (F : Nat) (pre caps : List V) | fnil
  | agg (l : List V) | tup (l : List V)
mutual
def ofV : Value → Option V
  | .bool b => some (.b b)
  | .int k n => some (.i k n)
  | .pointer none => some .nil
  | .slice none 0 0 => some .snil
  | .nilFunc => some .fnil
  | .agg l => (ofL l.toList).map .agg
  | .tuple l => (ofL l.toList).map .tup
  | _ => none
def ofL : List Value → Option (List V)
  | [] => some []
  | v :: r => match ofV v, ofL r with
    | some a, some b => some (a :: b)
    | _, _ => none
end
def V.cells : V → List V
  | .agg l => l
  | v => [v]
def V.one : V → Bool
  | .agg _ | .tup _ => false
  | _ => true
def nthZ {α : Type} : Nat → Option α := fun _ => none
def nthS {α : Type} (x : α) (_ : List α) (ih : Nat → Option α) : Nat → Option α := fun n => natCase (some x) ih n
def nth {α : Type} (l : List α) : Nat → Option α := lRec nthZ nthS l
def lenS {α : Type} (_ : α) (_ : List α) (n : Nat) : Nat := Nat.succ n
def len {α : Type} (l : List α) : Nat := lRec 0 lenS l
def appN {α : Type} : List α → List α := fun m => m
def appC {α : Type} (x : α) (_ : List α) (ih : List α → List α) : List α → List α := fun m => x :: ih m
def app {α : Type} (l : List α) : List α → List α := lRec appN appC l
def takeN {α : Type} : Nat → Option (List α) := fun n => natCase (some []) (fun _ => none) n
def takeC {α : Type} (x : α) (_ : List α) (ih : Nat → Option (List α)) : Nat → Option (List α) := fun n => natCase (some []) (fun m => oc (ih m) (fun r => some (x :: r)) none) n
/-- the first n; none: there are fewer -/
def takeA {α : Type} (n : Nat) (l : List α) : Option (List α) := lRec takeN takeC l n
def dropN {α : Type} : Nat → List α := fun _ => []
def dropC {α : Type} (x : α) (r : List α) (ih : Nat → List α) : Nat → List α := fun n => natCase (x :: r) ih n
def dropA {α : Type} (n : Nat) (l : List α) : List α := lRec dropN dropC l n
def lCase {α σ : Type} (z : σ) (s : α → List α → σ) (l : List α) : σ := lRec z (fun x r _ => s x r) l
def splN {α : Type} : Nat → List α → Option (List α) := fun n vs => lCase (natCase (some []) (fun _ => none) n) (fun _ _ => none) vs
def splC {α : Type} (x : α) (r : List α) (ih : Nat → List α → Option (List α)) : Nat → List α → Option (List α) := fun n vs =>
  natCase (lCase (some (x :: r)) (fun v vs => oc (ih 0 vs) (fun m => some (v :: m)) none) vs) (fun n => oc (ih n vs) (fun m => some (x :: m)) none) n
/-- cells written from a place on; none: they do not fit -/
def spl {α : Type} (l : List α) : Nat → List α → Option (List α) := lRec splN splC l
def allC {α : Type} (p : α → Bool) (x : α) (_ : List α) (ih : Bool) : Bool := bc (p x) ih false
def allB {α : Type} (p : α → Bool) (l : List α) : Bool := lRec true (allC p) l
def repA {α : Type} : Nat → List α → List α
  | 0, _ => []
  | n + 1, z => app z (repA n z)
def part (l : List V) (off sz : Nat) (agg : Bool) : Option V :=
  if agg then (takeA sz (dropA off l)).map .agg else nth l off

/-! ### things -/
inductive O where
  | cells (t : TypeId) (l : List V)
  | arr (t : TypeId) (n d : Nat) (z : V) (tr : Tr V)
  | vec (t : TypeId) (e n : Nat) (l : List V)
  | varr (t : TypeId) (n d : Nat) (z : V) (tr : Tr V)
  | dead
structure H where
  n : P
  lo : P
  t : PT O
def hc {σ : Type} (h : H) (f : P → P → PT O → σ) : σ := H.rec (motive := fun _ => σ) f h
def hget (h : H) (i : P) : Option O := hc h (fun _ _ t => t.get i)
def hset {σ : Type} (h : H) (i : P) (o : O) (k : H → σ) : σ := hc h (fun n lo t => setK i t o (fun t => k ⟨n, lo, t⟩))
/-- a new thing: its number, the things then -/
def hnew {σ : Type} (h : H) (o : O) (k : P → H → σ) : σ := hc h (fun n lo t => setK n t o (fun t => succK n (fun m => k n ⟨m, lo, t⟩)))
/-- may a thing be written? -/
def hmay (h : H) (i : P) : Bool := hc h (fun _ lo _ => bc (isH lo) true (pLe lo i))
/-- the elder things are not to be written -/
def hro (h : H) : H := hc h (fun n _ t => ⟨n, n, t⟩)
--@REC
/-! ### frames: three levels of sixteen -/
inductive N16 where
  | x0 | x1 | x2 | x3 | x4 | x5 | x6 | x7 | x8 | x9 | xa | xb | xc | xd | xe | xf
inductive Ky where
  | k1 (a : N16) | k2 (a b : N16) | k3 (a b c : N16) | kn (n : Nat)
inductive F1 where
  | e | n (a0 a1 a2 a3 a4 a5 a6 a7 a8 a9 a10 a11 a12 a13 a14 a15 : Option V)
inductive F2 where
  | e | n (a0 a1 a2 a3 a4 a5 a6 a7 a8 a9 a10 a11 a12 a13 a14 a15 : F1)
inductive F3 where
  | e | n (a0 a1 a2 a3 a4 a5 a6 a7 a8 a9 a10 a11 a12 a13 a14 a15 : F2)
inductive Fr where
  | mk (a : F1) (b : F2) (c : F3)
def g10 : F1 → Option V := F1.rec (motive := fun _ => Option V) none (fun x0 x1 x2 x3 x4 x5 x6 x7 x8 x9 x10 x11 x12 x13 x14 x15 => x0)
def s10 : F1 → V → (F1 → Nat) → Nat := F1.rec (motive := fun _ => V → (F1 → Nat) → Nat) (fun v k => k (.n (some v) none none none none none none none none none none none none none none none)) (fun x0 x1 x2 x3 x4 x5 x6 x7 x8 x9 x10 x11 x12 x13 x14 x15 v k => k (.n (some v) x1 x2 x3 x4 x5 x6 x7 x8 x9 x10 x11 x12 x13 x14 x15))
def g11 : F1 → Option V := F1.rec (motive := fun _ => Option V) none (fun x0 x1 x2 x3 x4 x5 x6 x7 x8 x9 x10 x11 x12 x13 x14 x15 => x1)
def s11 : F1 → V → (F1 → Nat) → Nat := F1.rec (motive := fun _ => V → (F1 → Nat) → Nat) (fun v k => k (.n none (some v) none none none none none none none none none none none none none none)) (fun x0 x1 x2 x3 x4 x5 x6 x7 x8 x9 x10 x11 x12 x13 x14 x15 v k => k (.n x0 (some v) x2 x3 x4 x5 x6 x7 x8 x9 x10 x11 x12 x13 x14 x15))
def g12 : F1 → Option V := F1.rec (motive := fun _ => Option V) none (fun x0 x1 x2 x3 x4 x5 x6 x7 x8 x9 x10 x11 x12 x13 x14 x15 => x2)
def s12 : F1 → V → (F1 → Nat) → Nat := F1.rec (motive := fun _ => V → (F1 → Nat) → Nat) (fun v k => k (.n none none (some v) none none none none none none none none none none none none none)) (fun x0 x1 x2 x3 x4 x5 x6 x7 x8 x9 x10 x11 x12 x13 x14 x15 v k => k (.n x0 x1 (some v) x3 x4 x5 x6 x7 x8 x9 x10 x11 x12 x13 x14 x15))
def g13 : F1 → Option V := F1.rec (motive := fun _ => Option V) none (fun x0 x1 x2 x3 x4 x5 x6 x7 x8 x9 x10 x11 x12 x13 x14 x15 => x3)
def s13 : F1 → V → (F1 → Nat) → Nat := F1.rec (motive := fun _ => V → (F1 → Nat) → Nat) (fun v k => k (.n none none none (some v) none none none none none none none none none none none none)) (fun x0 x1 x2 x3 x4 x5 x6 x7 x8 x9 x10 x11 x12 x13 x14 x15 v k => k (.n x0 x1 x2 (some v) x4 x5 x6 x7 x8 x9 x10 x11 x12 x13 x14 x15))
def g14 : F1 → Option V := F1.rec (motive := fun _ => Option V) none (fun x0 x1 x2 x3 x4 x5 x6 x7 x8 x9 x10 x11 x12 x13 x14 x15 => x4)
def s14 : F1 → V → (F1 → Nat) → Nat := F1.rec (motive := fun _ => V → (F1 → Nat) → Nat) (fun v k => k (.n none none none none (some v) none none none none none none none none none none none)) (fun x0 x1 x2 x3 x4 x5 x6 x7 x8 x9 x10 x11 x12 x13 x14 x15 v k => k (.n x0 x1 x2 x3 (some v) x5 x6 x7 x8 x9 x10 x11 x12 x13 x14 x15))
def g15 : F1 → Option V := F1.rec (motive := fun _ => Option V) none (fun x0 x1 x2 x3 x4 x5 x6 x7 x8 x9 x10 x11 x12 x13 x14 x15 => x5)
def s15 : F1 → V → (F1 → Nat) → Nat := F1.rec (motive := fun _ => V → (F1 → Nat) → Nat) (fun v k => k (.n none none none none none (some v) none none none none none none none none none none)) (fun x0 x1 x2 x3 x4 x5 x6 x7 x8 x9 x10 x11 x12 x13 x14 x15 v k => k (.n x0 x1 x2 x3 x4 (some v) x6 x7 x8 x9 x10 x11 x12 x13 x14 x15))
def g16 : F1 → Option V := F1.rec (motive := fun _ => Option V) none (fun x0 x1 x2 x3 x4 x5 x6 x7 x8 x9 x10 x11 x12 x13 x14 x15 => x6)
def s16 : F1 → V → (F1 → Nat) → Nat := F1.rec (motive := fun _ => V → (F1 → Nat) → Nat) (fun v k => k (.n none none none none none none (some v) none none none none none none none none none)) (fun x0 x1 x2 x3 x4 x5 x6 x7 x8 x9 x10 x11 x12 x13 x14 x15 v k => k (.n x0 x1 x2 x3 x4 x5 (some v) x7 x8 x9 x10 x11 x12 x13 x14 x15))
def g17 : F1 → Option V := F1.rec (motive := fun _ => Option V) none (fun x0 x1 x2 x3 x4 x5 x6 x7 x8 x9 x10 x11 x12 x13 x14 x15 => x7)
def s17 : F1 → V → (F1 → Nat) → Nat := F1.rec (motive := fun _ => V → (F1 → Nat) → Nat) (fun v k => k (.n none none none none none none none (some v) none none none none none none none none)) (fun x0 x1 x2 x3 x4 x5 x6 x7 x8 x9 x10 x11 x12 x13 x14 x15 v k => k (.n x0 x1 x2 x3 x4 x5 x6 (some v) x8 x9 x10 x11 x12 x13 x14 x15))
def g18 : F1 → Option V := F1.rec (motive := fun _ => Option V) none (fun x0 x1 x2 x3 x4 x5 x6 x7 x8 x9 x10 x11 x12 x13 x14 x15 => x8)
def s18 : F1 → V → (F1 → Nat) → Nat := F1.rec (motive := fun _ => V → (F1 → Nat) → Nat) (fun v k => k (.n none none none none none none none none (some v) none none none none none none none)) (fun x0 x1 x2 x3 x4 x5 x6 x7 x8 x9 x10 x11 x12 x13 x14 x15 v k => k (.n x0 x1 x2 x3 x4 x5 x6 x7 (some v) x9 x10 x11 x12 x13 x14 x15))
def g19 : F1 → Option V := F1.rec (motive := fun _ => Option V) none (fun x0 x1 x2 x3 x4 x5 x6 x7 x8 x9 x10 x11 x12 x13 x14 x15 => x9)
def s19 : F1 → V → (F1 → Nat) → Nat := F1.rec (motive := fun _ => V → (F1 → Nat) → Nat) (fun v k => k (.n none none none none none none none none none (some v) none none none none none none)) (fun x0 x1 x2 x3 x4 x5 x6 x7 x8 x9 x10 x11 x12 x13 x14 x15 v k => k (.n x0 x1 x2 x3 x4 x5 x6 x7 x8 (some v) x10 x11 x12 x13 x14 x15))
def g1a : F1 → Option V := F1.rec (motive := fun _ => Option V) none (fun x0 x1 x2 x3 x4 x5 x6 x7 x8 x9 x10 x11 x12 x13 x14 x15 => x10)
def s1a : F1 → V → (F1 → Nat) → Nat := F1.rec (motive := fun _ => V → (F1 → Nat) → Nat) (fun v k => k (.n none none none none none none none none none none (some v) none none none none none)) (fun x0 x1 x2 x3 x4 x5 x6 x7 x8 x9 x10 x11 x12 x13 x14 x15 v k => k (.n x0 x1 x2 x3 x4 x5 x6 x7 x8 x9 (some v) x11 x12 x13 x14 x15))
def g1b : F1 → Option V := F1.rec (motive := fun _ => Option V) none (fun x0 x1 x2 x3 x4 x5 x6 x7 x8 x9 x10 x11 x12 x13 x14 x15 => x11)
def s1b : F1 → V → (F1 → Nat) → Nat := F1.rec (motive := fun _ => V → (F1 → Nat) → Nat) (fun v k => k (.n none none none none none none none none none none none (some v) none none none none)) (fun x0 x1 x2 x3 x4 x5 x6 x7 x8 x9 x10 x11 x12 x13 x14 x15 v k => k (.n x0 x1 x2 x3 x4 x5 x6 x7 x8 x9 x10 (some v) x12 x13 x14 x15))
def g1c : F1 → Option V := F1.rec (motive := fun _ => Option V) none (fun x0 x1 x2 x3 x4 x5 x6 x7 x8 x9 x10 x11 x12 x13 x14 x15 => x12)
def s1c : F1 → V → (F1 → Nat) → Nat := F1.rec (motive := fun _ => V → (F1 → Nat) → Nat) (fun v k => k (.n none none none none none none none none none none none none (some v) none none none)) (fun x0 x1 x2 x3 x4 x5 x6 x7 x8 x9 x10 x11 x12 x13 x14 x15 v k => k (.n x0 x1 x2 x3 x4 x5 x6 x7 x8 x9 x10 x11 (some v) x13 x14 x15))
def g1d : F1 → Option V := F1.rec (motive := fun _ => Option V) none (fun x0 x1 x2 x3 x4 x5 x6 x7 x8 x9 x10 x11 x12 x13 x14 x15 => x13)
def s1d : F1 → V → (F1 → Nat) → Nat := F1.rec (motive := fun _ => V → (F1 → Nat) → Nat) (fun v k => k (.n none none none none none none none none none none none none none (some v) none none)) (fun x0 x1 x2 x3 x4 x5 x6 x7 x8 x9 x10 x11 x12 x13 x14 x15 v k => k (.n x0 x1 x2 x3 x4 x5 x6 x7 x8 x9 x10 x11 x12 (some v) x14 x15))
def g1e : F1 → Option V := F1.rec (motive := fun _ => Option V) none (fun x0 x1 x2 x3 x4 x5 x6 x7 x8 x9 x10 x11 x12 x13 x14 x15 => x14)
def s1e : F1 → V → (F1 → Nat) → Nat := F1.rec (motive := fun _ => V → (F1 → Nat) → Nat) (fun v k => k (.n none none none none none none none none none none none none none none (some v) none)) (fun x0 x1 x2 x3 x4 x5 x6 x7 x8 x9 x10 x11 x12 x13 x14 x15 v k => k (.n x0 x1 x2 x3 x4 x5 x6 x7 x8 x9 x10 x11 x12 x13 (some v) x15))
def g1f : F1 → Option V := F1.rec (motive := fun _ => Option V) none (fun x0 x1 x2 x3 x4 x5 x6 x7 x8 x9 x10 x11 x12 x13 x14 x15 => x15)
def s1f : F1 → V → (F1 → Nat) → Nat := F1.rec (motive := fun _ => V → (F1 → Nat) → Nat) (fun v k => k (.n none none none none none none none none none none none none none none none (some v))) (fun x0 x1 x2 x3 x4 x5 x6 x7 x8 x9 x10 x11 x12 x13 x14 x15 v k => k (.n x0 x1 x2 x3 x4 x5 x6 x7 x8 x9 x10 x11 x12 x13 x14 (some v)))
def F1.get : N16 → F1 → Option V := N16.rec (motive := fun _ => F1 → Option V) g10 g11 g12 g13 g14 g15 g16 g17 g18 g19 g1a g1b g1c g1d g1e g1f
def F1.set : N16 → F1 → V → (F1 → Nat) → Nat := N16.rec (motive := fun _ => F1 → V → (F1 → Nat) → Nat) s10 s11 s12 s13 s14 s15 s16 s17 s18 s19 s1a s1b s1c s1d s1e s1f
def g20 : F2 → F1 := F2.rec (motive := fun _ => F1) .e (fun x0 x1 x2 x3 x4 x5 x6 x7 x8 x9 x10 x11 x12 x13 x14 x15 => x0)
def s20 : F2 → F1 → (F2 → Nat) → Nat := F2.rec (motive := fun _ => F1 → (F2 → Nat) → Nat) (fun v k => k (.n v .e .e .e .e .e .e .e .e .e .e .e .e .e .e .e)) (fun x0 x1 x2 x3 x4 x5 x6 x7 x8 x9 x10 x11 x12 x13 x14 x15 v k => k (.n v x1 x2 x3 x4 x5 x6 x7 x8 x9 x10 x11 x12 x13 x14 x15))
def g21 : F2 → F1 := F2.rec (motive := fun _ => F1) .e (fun x0 x1 x2 x3 x4 x5 x6 x7 x8 x9 x10 x11 x12 x13 x14 x15 => x1)
def s21 : F2 → F1 → (F2 → Nat) → Nat := F2.rec (motive := fun _ => F1 → (F2 → Nat) → Nat) (fun v k => k (.n .e v .e .e .e .e .e .e .e .e .e .e .e .e .e .e)) (fun x0 x1 x2 x3 x4 x5 x6 x7 x8 x9 x10 x11 x12 x13 x14 x15 v k => k (.n x0 v x2 x3 x4 x5 x6 x7 x8 x9 x10 x11 x12 x13 x14 x15))
def g22 : F2 → F1 := F2.rec (motive := fun _ => F1) .e (fun x0 x1 x2 x3 x4 x5 x6 x7 x8 x9 x10 x11 x12 x13 x14 x15 => x2)
def s22 : F2 → F1 → (F2 → Nat) → Nat := F2.rec (motive := fun _ => F1 → (F2 → Nat) → Nat) (fun v k => k (.n .e .e v .e .e .e .e .e .e .e .e .e .e .e .e .e)) (fun x0 x1 x2 x3 x4 x5 x6 x7 x8 x9 x10 x11 x12 x13 x14 x15 v k => k (.n x0 x1 v x3 x4 x5 x6 x7 x8 x9 x10 x11 x12 x13 x14 x15))
def g23 : F2 → F1 := F2.rec (motive := fun _ => F1) .e (fun x0 x1 x2 x3 x4 x5 x6 x7 x8 x9 x10 x11 x12 x13 x14 x15 => x3)
def s23 : F2 → F1 → (F2 → Nat) → Nat := F2.rec (motive := fun _ => F1 → (F2 → Nat) → Nat) (fun v k => k (.n .e .e .e v .e .e .e .e .e .e .e .e .e .e .e .e)) (fun x0 x1 x2 x3 x4 x5 x6 x7 x8 x9 x10 x11 x12 x13 x14 x15 v k => k (.n x0 x1 x2 v x4 x5 x6 x7 x8 x9 x10 x11 x12 x13 x14 x15))
def g24 : F2 → F1 := F2.rec (motive := fun _ => F1) .e (fun x0 x1 x2 x3 x4 x5 x6 x7 x8 x9 x10 x11 x12 x13 x14 x15 => x4)
def s24 : F2 → F1 → (F2 → Nat) → Nat := F2.rec (motive := fun _ => F1 → (F2 → Nat) → Nat) (fun v k => k (.n .e .e .e .e v .e .e .e .e .e .e .e .e .e .e .e)) (fun x0 x1 x2 x3 x4 x5 x6 x7 x8 x9 x10 x11 x12 x13 x14 x15 v k => k (.n x0 x1 x2 x3 v x5 x6 x7 x8 x9 x10 x11 x12 x13 x14 x15))
def g25 : F2 → F1 := F2.rec (motive := fun _ => F1) .e (fun x0 x1 x2 x3 x4 x5 x6 x7 x8 x9 x10 x11 x12 x13 x14 x15 => x5)
def s25 : F2 → F1 → (F2 → Nat) → Nat := F2.rec (motive := fun _ => F1 → (F2 → Nat) → Nat) (fun v k => k (.n .e .e .e .e .e v .e .e .e .e .e .e .e .e .e .e)) (fun x0 x1 x2 x3 x4 x5 x6 x7 x8 x9 x10 x11 x12 x13 x14 x15 v k => k (.n x0 x1 x2 x3 x4 v x6 x7 x8 x9 x10 x11 x12 x13 x14 x15))
def g26 : F2 → F1 := F2.rec (motive := fun _ => F1) .e (fun x0 x1 x2 x3 x4 x5 x6 x7 x8 x9 x10 x11 x12 x13 x14 x15 => x6)
def s26 : F2 → F1 → (F2 → Nat) → Nat := F2.rec (motive := fun _ => F1 → (F2 → Nat) → Nat) (fun v k => k (.n .e .e .e .e .e .e v .e .e .e .e .e .e .e .e .e)) (fun x0 x1 x2 x3 x4 x5 x6 x7 x8 x9 x10 x11 x12 x13 x14 x15 v k => k (.n x0 x1 x2 x3 x4 x5 v x7 x8 x9 x10 x11 x12 x13 x14 x15))
def g27 : F2 → F1 := F2.rec (motive := fun _ => F1) .e (fun x0 x1 x2 x3 x4 x5 x6 x7 x8 x9 x10 x11 x12 x13 x14 x15 => x7)
def s27 : F2 → F1 → (F2 → Nat) → Nat := F2.rec (motive := fun _ => F1 → (F2 → Nat) → Nat) (fun v k => k (.n .e .e .e .e .e .e .e v .e .e .e .e .e .e .e .e)) (fun x0 x1 x2 x3 x4 x5 x6 x7 x8 x9 x10 x11 x12 x13 x14 x15 v k => k (.n x0 x1 x2 x3 x4 x5 x6 v x8 x9 x10 x11 x12 x13 x14 x15))
def g28 : F2 → F1 := F2.rec (motive := fun _ => F1) .e (fun x0 x1 x2 x3 x4 x5 x6 x7 x8 x9 x10 x11 x12 x13 x14 x15 => x8)
def s28 : F2 → F1 → (F2 → Nat) → Nat := F2.rec (motive := fun _ => F1 → (F2 → Nat) → Nat) (fun v k => k (.n .e .e .e .e .e .e .e .e v .e .e .e .e .e .e .e)) (fun x0 x1 x2 x3 x4 x5 x6 x7 x8 x9 x10 x11 x12 x13 x14 x15 v k => k (.n x0 x1 x2 x3 x4 x5 x6 x7 v x9 x10 x11 x12 x13 x14 x15))
def g29 : F2 → F1 := F2.rec (motive := fun _ => F1) .e (fun x0 x1 x2 x3 x4 x5 x6 x7 x8 x9 x10 x11 x12 x13 x14 x15 => x9)
def s29 : F2 → F1 → (F2 → Nat) → Nat := F2.rec (motive := fun _ => F1 → (F2 → Nat) → Nat) (fun v k => k (.n .e .e .e .e .e .e .e .e .e v .e .e .e .e .e .e)) (fun x0 x1 x2 x3 x4 x5 x6 x7 x8 x9 x10 x11 x12 x13 x14 x15 v k => k (.n x0 x1 x2 x3 x4 x5 x6 x7 x8 v x10 x11 x12 x13 x14 x15))
def g2a : F2 → F1 := F2.rec (motive := fun _ => F1) .e (fun x0 x1 x2 x3 x4 x5 x6 x7 x8 x9 x10 x11 x12 x13 x14 x15 => x10)
def s2a : F2 → F1 → (F2 → Nat) → Nat := F2.rec (motive := fun _ => F1 → (F2 → Nat) → Nat) (fun v k => k (.n .e .e .e .e .e .e .e .e .e .e v .e .e .e .e .e)) (fun x0 x1 x2 x3 x4 x5 x6 x7 x8 x9 x10 x11 x12 x13 x14 x15 v k => k (.n x0 x1 x2 x3 x4 x5 x6 x7 x8 x9 v x11 x12 x13 x14 x15))
def g2b : F2 → F1 := F2.rec (motive := fun _ => F1) .e (fun x0 x1 x2 x3 x4 x5 x6 x7 x8 x9 x10 x11 x12 x13 x14 x15 => x11)
def s2b : F2 → F1 → (F2 → Nat) → Nat := F2.rec (motive := fun _ => F1 → (F2 → Nat) → Nat) (fun v k => k (.n .e .e .e .e .e .e .e .e .e .e .e v .e .e .e .e)) (fun x0 x1 x2 x3 x4 x5 x6 x7 x8 x9 x10 x11 x12 x13 x14 x15 v k => k (.n x0 x1 x2 x3 x4 x5 x6 x7 x8 x9 x10 v x12 x13 x14 x15))
def g2c : F2 → F1 := F2.rec (motive := fun _ => F1) .e (fun x0 x1 x2 x3 x4 x5 x6 x7 x8 x9 x10 x11 x12 x13 x14 x15 => x12)
def s2c : F2 → F1 → (F2 → Nat) → Nat := F2.rec (motive := fun _ => F1 → (F2 → Nat) → Nat) (fun v k => k (.n .e .e .e .e .e .e .e .e .e .e .e .e v .e .e .e)) (fun x0 x1 x2 x3 x4 x5 x6 x7 x8 x9 x10 x11 x12 x13 x14 x15 v k => k (.n x0 x1 x2 x3 x4 x5 x6 x7 x8 x9 x10 x11 v x13 x14 x15))
def g2d : F2 → F1 := F2.rec (motive := fun _ => F1) .e (fun x0 x1 x2 x3 x4 x5 x6 x7 x8 x9 x10 x11 x12 x13 x14 x15 => x13)
def s2d : F2 → F1 → (F2 → Nat) → Nat := F2.rec (motive := fun _ => F1 → (F2 → Nat) → Nat) (fun v k => k (.n .e .e .e .e .e .e .e .e .e .e .e .e .e v .e .e)) (fun x0 x1 x2 x3 x4 x5 x6 x7 x8 x9 x10 x11 x12 x13 x14 x15 v k => k (.n x0 x1 x2 x3 x4 x5 x6 x7 x8 x9 x10 x11 x12 v x14 x15))
def g2e : F2 → F1 := F2.rec (motive := fun _ => F1) .e (fun x0 x1 x2 x3 x4 x5 x6 x7 x8 x9 x10 x11 x12 x13 x14 x15 => x14)
def s2e : F2 → F1 → (F2 → Nat) → Nat := F2.rec (motive := fun _ => F1 → (F2 → Nat) → Nat) (fun v k => k (.n .e .e .e .e .e .e .e .e .e .e .e .e .e .e v .e)) (fun x0 x1 x2 x3 x4 x5 x6 x7 x8 x9 x10 x11 x12 x13 x14 x15 v k => k (.n x0 x1 x2 x3 x4 x5 x6 x7 x8 x9 x10 x11 x12 x13 v x15))
def g2f : F2 → F1 := F2.rec (motive := fun _ => F1) .e (fun x0 x1 x2 x3 x4 x5 x6 x7 x8 x9 x10 x11 x12 x13 x14 x15 => x15)
def s2f : F2 → F1 → (F2 → Nat) → Nat := F2.rec (motive := fun _ => F1 → (F2 → Nat) → Nat) (fun v k => k (.n .e .e .e .e .e .e .e .e .e .e .e .e .e .e .e v)) (fun x0 x1 x2 x3 x4 x5 x6 x7 x8 x9 x10 x11 x12 x13 x14 x15 v k => k (.n x0 x1 x2 x3 x4 x5 x6 x7 x8 x9 x10 x11 x12 x13 x14 v))
def F2.get : N16 → F2 → F1 := N16.rec (motive := fun _ => F2 → F1) g20 g21 g22 g23 g24 g25 g26 g27 g28 g29 g2a g2b g2c g2d g2e g2f
def F2.set : N16 → F2 → F1 → (F2 → Nat) → Nat := N16.rec (motive := fun _ => F2 → F1 → (F2 → Nat) → Nat) s20 s21 s22 s23 s24 s25 s26 s27 s28 s29 s2a s2b s2c s2d s2e s2f
def g30 : F3 → F2 := F3.rec (motive := fun _ => F2) .e (fun x0 x1 x2 x3 x4 x5 x6 x7 x8 x9 x10 x11 x12 x13 x14 x15 => x0)
def s30 : F3 → F2 → (F3 → Nat) → Nat := F3.rec (motive := fun _ => F2 → (F3 → Nat) → Nat) (fun v k => k (.n v .e .e .e .e .e .e .e .e .e .e .e .e .e .e .e)) (fun x0 x1 x2 x3 x4 x5 x6 x7 x8 x9 x10 x11 x12 x13 x14 x15 v k => k (.n v x1 x2 x3 x4 x5 x6 x7 x8 x9 x10 x11 x12 x13 x14 x15))
def g31 : F3 → F2 := F3.rec (motive := fun _ => F2) .e (fun x0 x1 x2 x3 x4 x5 x6 x7 x8 x9 x10 x11 x12 x13 x14 x15 => x1)
def s31 : F3 → F2 → (F3 → Nat) → Nat := F3.rec (motive := fun _ => F2 → (F3 → Nat) → Nat) (fun v k => k (.n .e v .e .e .e .e .e .e .e .e .e .e .e .e .e .e)) (fun x0 x1 x2 x3 x4 x5 x6 x7 x8 x9 x10 x11 x12 x13 x14 x15 v k => k (.n x0 v x2 x3 x4 x5 x6 x7 x8 x9 x10 x11 x12 x13 x14 x15))
def g32 : F3 → F2 := F3.rec (motive := fun _ => F2) .e (fun x0 x1 x2 x3 x4 x5 x6 x7 x8 x9 x10 x11 x12 x13 x14 x15 => x2)
def s32 : F3 → F2 → (F3 → Nat) → Nat := F3.rec (motive := fun _ => F2 → (F3 → Nat) → Nat) (fun v k => k (.n .e .e v .e .e .e .e .e .e .e .e .e .e .e .e .e)) (fun x0 x1 x2 x3 x4 x5 x6 x7 x8 x9 x10 x11 x12 x13 x14 x15 v k => k (.n x0 x1 v x3 x4 x5 x6 x7 x8 x9 x10 x11 x12 x13 x14 x15))
def g33 : F3 → F2 := F3.rec (motive := fun _ => F2) .e (fun x0 x1 x2 x3 x4 x5 x6 x7 x8 x9 x10 x11 x12 x13 x14 x15 => x3)
def s33 : F3 → F2 → (F3 → Nat) → Nat := F3.rec (motive := fun _ => F2 → (F3 → Nat) → Nat) (fun v k => k (.n .e .e .e v .e .e .e .e .e .e .e .e .e .e .e .e)) (fun x0 x1 x2 x3 x4 x5 x6 x7 x8 x9 x10 x11 x12 x13 x14 x15 v k => k (.n x0 x1 x2 v x4 x5 x6 x7 x8 x9 x10 x11 x12 x13 x14 x15))
def g34 : F3 → F2 := F3.rec (motive := fun _ => F2) .e (fun x0 x1 x2 x3 x4 x5 x6 x7 x8 x9 x10 x11 x12 x13 x14 x15 => x4)
def s34 : F3 → F2 → (F3 → Nat) → Nat := F3.rec (motive := fun _ => F2 → (F3 → Nat) → Nat) (fun v k => k (.n .e .e .e .e v .e .e .e .e .e .e .e .e .e .e .e)) (fun x0 x1 x2 x3 x4 x5 x6 x7 x8 x9 x10 x11 x12 x13 x14 x15 v k => k (.n x0 x1 x2 x3 v x5 x6 x7 x8 x9 x10 x11 x12 x13 x14 x15))
def g35 : F3 → F2 := F3.rec (motive := fun _ => F2) .e (fun x0 x1 x2 x3 x4 x5 x6 x7 x8 x9 x10 x11 x12 x13 x14 x15 => x5)
def s35 : F3 → F2 → (F3 → Nat) → Nat := F3.rec (motive := fun _ => F2 → (F3 → Nat) → Nat) (fun v k => k (.n .e .e .e .e .e v .e .e .e .e .e .e .e .e .e .e)) (fun x0 x1 x2 x3 x4 x5 x6 x7 x8 x9 x10 x11 x12 x13 x14 x15 v k => k (.n x0 x1 x2 x3 x4 v x6 x7 x8 x9 x10 x11 x12 x13 x14 x15))
def g36 : F3 → F2 := F3.rec (motive := fun _ => F2) .e (fun x0 x1 x2 x3 x4 x5 x6 x7 x8 x9 x10 x11 x12 x13 x14 x15 => x6)
def s36 : F3 → F2 → (F3 → Nat) → Nat := F3.rec (motive := fun _ => F2 → (F3 → Nat) → Nat) (fun v k => k (.n .e .e .e .e .e .e v .e .e .e .e .e .e .e .e .e)) (fun x0 x1 x2 x3 x4 x5 x6 x7 x8 x9 x10 x11 x12 x13 x14 x15 v k => k (.n x0 x1 x2 x3 x4 x5 v x7 x8 x9 x10 x11 x12 x13 x14 x15))
def g37 : F3 → F2 := F3.rec (motive := fun _ => F2) .e (fun x0 x1 x2 x3 x4 x5 x6 x7 x8 x9 x10 x11 x12 x13 x14 x15 => x7)
def s37 : F3 → F2 → (F3 → Nat) → Nat := F3.rec (motive := fun _ => F2 → (F3 → Nat) → Nat) (fun v k => k (.n .e .e .e .e .e .e .e v .e .e .e .e .e .e .e .e)) (fun x0 x1 x2 x3 x4 x5 x6 x7 x8 x9 x10 x11 x12 x13 x14 x15 v k => k (.n x0 x1 x2 x3 x4 x5 x6 v x8 x9 x10 x11 x12 x13 x14 x15))
def g38 : F3 → F2 := F3.rec (motive := fun _ => F2) .e (fun x0 x1 x2 x3 x4 x5 x6 x7 x8 x9 x10 x11 x12 x13 x14 x15 => x8)
def s38 : F3 → F2 → (F3 → Nat) → Nat := F3.rec (motive := fun _ => F2 → (F3 → Nat) → Nat) (fun v k => k (.n .e .e .e .e .e .e .e .e v .e .e .e .e .e .e .e)) (fun x0 x1 x2 x3 x4 x5 x6 x7 x8 x9 x10 x11 x12 x13 x14 x15 v k => k (.n x0 x1 x2 x3 x4 x5 x6 x7 v x9 x10 x11 x12 x13 x14 x15))
def g39 : F3 → F2 := F3.rec (motive := fun _ => F2) .e (fun x0 x1 x2 x3 x4 x5 x6 x7 x8 x9 x10 x11 x12 x13 x14 x15 => x9)
def s39 : F3 → F2 → (F3 → Nat) → Nat := F3.rec (motive := fun _ => F2 → (F3 → Nat) → Nat) (fun v k => k (.n .e .e .e .e .e .e .e .e .e v .e .e .e .e .e .e)) (fun x0 x1 x2 x3 x4 x5 x6 x7 x8 x9 x10 x11 x12 x13 x14 x15 v k => k (.n x0 x1 x2 x3 x4 x5 x6 x7 x8 v x10 x11 x12 x13 x14 x15))
def g3a : F3 → F2 := F3.rec (motive := fun _ => F2) .e (fun x0 x1 x2 x3 x4 x5 x6 x7 x8 x9 x10 x11 x12 x13 x14 x15 => x10)
def s3a : F3 → F2 → (F3 → Nat) → Nat := F3.rec (motive := fun _ => F2 → (F3 → Nat) → Nat) (fun v k => k (.n .e .e .e .e .e .e .e .e .e .e v .e .e .e .e .e)) (fun x0 x1 x2 x3 x4 x5 x6 x7 x8 x9 x10 x11 x12 x13 x14 x15 v k => k (.n x0 x1 x2 x3 x4 x5 x6 x7 x8 x9 v x11 x12 x13 x14 x15))
def g3b : F3 → F2 := F3.rec (motive := fun _ => F2) .e (fun x0 x1 x2 x3 x4 x5 x6 x7 x8 x9 x10 x11 x12 x13 x14 x15 => x11)
def s3b : F3 → F2 → (F3 → Nat) → Nat := F3.rec (motive := fun _ => F2 → (F3 → Nat) → Nat) (fun v k => k (.n .e .e .e .e .e .e .e .e .e .e .e v .e .e .e .e)) (fun x0 x1 x2 x3 x4 x5 x6 x7 x8 x9 x10 x11 x12 x13 x14 x15 v k => k (.n x0 x1 x2 x3 x4 x5 x6 x7 x8 x9 x10 v x12 x13 x14 x15))
def g3c : F3 → F2 := F3.rec (motive := fun _ => F2) .e (fun x0 x1 x2 x3 x4 x5 x6 x7 x8 x9 x10 x11 x12 x13 x14 x15 => x12)
def s3c : F3 → F2 → (F3 → Nat) → Nat := F3.rec (motive := fun _ => F2 → (F3 → Nat) → Nat) (fun v k => k (.n .e .e .e .e .e .e .e .e .e .e .e .e v .e .e .e)) (fun x0 x1 x2 x3 x4 x5 x6 x7 x8 x9 x10 x11 x12 x13 x14 x15 v k => k (.n x0 x1 x2 x3 x4 x5 x6 x7 x8 x9 x10 x11 v x13 x14 x15))
def g3d : F3 → F2 := F3.rec (motive := fun _ => F2) .e (fun x0 x1 x2 x3 x4 x5 x6 x7 x8 x9 x10 x11 x12 x13 x14 x15 => x13)
def s3d : F3 → F2 → (F3 → Nat) → Nat := F3.rec (motive := fun _ => F2 → (F3 → Nat) → Nat) (fun v k => k (.n .e .e .e .e .e .e .e .e .e .e .e .e .e v .e .e)) (fun x0 x1 x2 x3 x4 x5 x6 x7 x8 x9 x10 x11 x12 x13 x14 x15 v k => k (.n x0 x1 x2 x3 x4 x5 x6 x7 x8 x9 x10 x11 x12 v x14 x15))
def g3e : F3 → F2 := F3.rec (motive := fun _ => F2) .e (fun x0 x1 x2 x3 x4 x5 x6 x7 x8 x9 x10 x11 x12 x13 x14 x15 => x14)
def s3e : F3 → F2 → (F3 → Nat) → Nat := F3.rec (motive := fun _ => F2 → (F3 → Nat) → Nat) (fun v k => k (.n .e .e .e .e .e .e .e .e .e .e .e .e .e .e v .e)) (fun x0 x1 x2 x3 x4 x5 x6 x7 x8 x9 x10 x11 x12 x13 x14 x15 v k => k (.n x0 x1 x2 x3 x4 x5 x6 x7 x8 x9 x10 x11 x12 x13 v x15))
def g3f : F3 → F2 := F3.rec (motive := fun _ => F2) .e (fun x0 x1 x2 x3 x4 x5 x6 x7 x8 x9 x10 x11 x12 x13 x14 x15 => x15)
def s3f : F3 → F2 → (F3 → Nat) → Nat := F3.rec (motive := fun _ => F2 → (F3 → Nat) → Nat) (fun v k => k (.n .e .e .e .e .e .e .e .e .e .e .e .e .e .e .e v)) (fun x0 x1 x2 x3 x4 x5 x6 x7 x8 x9 x10 x11 x12 x13 x14 x15 v k => k (.n x0 x1 x2 x3 x4 x5 x6 x7 x8 x9 x10 x11 x12 x13 x14 v))
def F3.get : N16 → F3 → F2 := N16.rec (motive := fun _ => F3 → F2) g30 g31 g32 g33 g34 g35 g36 g37 g38 g39 g3a g3b g3c g3d g3e g3f
def F3.set : N16 → F3 → F2 → (F3 → Nat) → Nat := N16.rec (motive := fun _ => F3 → F2 → (F3 → Nat) → Nat) s30 s31 s32 s33 s34 s35 s36 s37 s38 s39 s3a s3b s3c s3d s3e s3f
def Fr.e : Fr := .mk .e .e .e
def fg1 (a : N16) : Fr → Option V := fun fr => Fr.rec (motive := fun _ => N16 → Option V) (fun x _ _ a => F1.get a x) fr a
def fg2 (a b : N16) : Fr → Option V := fun fr => Fr.rec (motive := fun _ => N16 → N16 → Option V) (fun _ y _ a b => F1.get b (F2.get a y)) fr a b
def fg3 (a b c : N16) : Fr → Option V := fun fr => Fr.rec (motive := fun _ => N16 → N16 → N16 → Option V) (fun _ _ z a b c => F1.get c (F2.get b (F3.get a z))) fr a b c
def fgn (_ : Nat) : Fr → Option V := fun _ => none
def Fr.get (fr : Fr) (k : Ky) : Option V := Ky.rec (motive := fun _ => Fr → Option V) fg1 fg2 fg3 fgn k fr
def fs1 (a : N16) : Fr → V → (Fr → Nat) → Nat := fun fr => Fr.rec (motive := fun _ => N16 → V → (Fr → Nat) → Nat) (fun x y z a v q => F1.set a x v (fun x => q (.mk x y z))) fr a
def fs2 (a b : N16) : Fr → V → (Fr → Nat) → Nat := fun fr => Fr.rec (motive := fun _ => N16 → N16 → V → (Fr → Nat) → Nat) (fun x y z a b v q => F1.set b (F2.get a y) v (fun c => F2.set a y c (fun y => q (.mk x y z)))) fr a b
def fs3 (a b c : N16) : Fr → V → (Fr → Nat) → Nat := fun fr => Fr.rec (motive := fun _ => N16 → N16 → N16 → V → (Fr → Nat) → Nat) (fun x y z a b c v q => F1.set c (F2.get b (F3.get a z)) v (fun d => F2.set b (F3.get a z) d (fun d => F3.set a z d (fun z => q (.mk x y z))))) fr a b c
def fsn (_ : Nat) : Fr → V → (Fr → Nat) → Nat := fun _ _ _ => 1
def setF (k : Ky) (fr : Fr) (v : V) (q : Fr → Nat) : Nat := Ky.rec (motive := fun _ => Fr → V → (Fr → Nat) → Nat) fs1 fs2 fs3 fsn k fr v q
--@END
def nib (n : Nat) : N16 := natCase .x0 (fun n => natCase .x1 (fun n => natCase .x2 (fun n => natCase .x3 (fun n => natCase .x4 (fun n => natCase .x5 (fun n => natCase .x6 (fun n => natCase .x7 (fun n => natCase .x8 (fun n => natCase .x9 (fun n => natCase .xa (fun n => natCase .xb (fun n => natCase .xc (fun n => natCase .xd (fun n => natCase .xe (fun n => .xf) n) n) n) n) n) n) n) n) n) n) n) n) n) n) n
def keyOf (n : Nat) : Ky := bc (Nat.blt n 16) (.k1 (nib n)) (bc (Nat.blt n 272) (.k2 (nib (Nat.div (Nat.sub n 16) 16)) (nib (Nat.mod (Nat.sub n 16) 16)))
  (bc (Nat.blt n 4368) (.k3 (nib (Nat.div (Nat.sub n 272) 256)) (nib (Nat.mod (Nat.div (Nat.sub n 272) 16) 16)) (nib (Nat.mod (Nat.sub n 272) 16))) (.kn n)))

/-! ### instructions made ready -/
inductive Od where
  | s (p : Ky) | c (v : V)
/-- what two values of a type are compared by -/
inductive EK where
  | int (k : IntKind) | bool
inductive QK where
  | num | bool | ptr | func | slc | agg (l : List EK)
inductive IOp where
  | mov (x : Od)
  | pick (c a b : Od)
  | new (t : TypeId) (l : List V)
  | box (t : TypeId) (x : Od)
  | agg (z : List V) (ps : List (Nat × Nat × Od))
  | bsl (t : TypeId) (n : Nat) (z : List V) (ps : List (Nat × Nat × Od))
  | ld (a : Od) | ldn (n : Nat) (a : Od)
  | st (n : Nat) (a x : Od)
  | nilc (x : Od)
  | bin (o : BinOp) (q : QK) (x y : Od)
  | not (x : Od) | neg (x : Od)
  | cv (k : IntKind) (x : Od)
  | mkf (F : Nat) (pre caps : List Od)
  | fad (off : Nat) (x : Od)
  | fld (off sz : Nat) (g : Bool) (x : Od)
  | ixa (n esz : Nat) (x i : Od)
  | ixs (esz : Nat) (x i : Od)
  | ix (n esz : Nat) (g : Bool) (x i : Od)
  | ext (x : Od) (i : Nat)
  | lens (x : Od)
  | mmx (mx : Bool) (x y : Od)
  | msl (t : TypeId) (z : V) (esz by_ : Nat) (n c : Od)
  | slc (esz : Nat) (x : Od) (lo hi mx : Option Od)
  | sla (n esz : Nat) (x : Od) (lo hi mx : Option Od)
  | app (t : TypeId) (esz by_ : Nat) (x y : Od)
  | cpy (esz : Nat) (x y : Od)
/-- an operation or a call: where its value goes, its guard -/
inductive OI where
  | op (d : Option Ky) (g : Option (Ky × Bool)) (i : IOp)
  | call (d : Option Ky) (g : Option (Ky × Bool)) (f : Od) (args : List Od)
inductive IC where
  | skip | ret | exit (i : Nat) | seq (a b : IC) | cond (t : Ky) (a b : IC) | block (i : Nat) (a : IC) | loop (a : IC)
  | ops (l : List OI) | qops (l : List OI) | hops (bs : List Ky) (l : List (Bool × OI)) | bad
inductive IR where
  | tmp (t : Ky) | c1 (a : Ky) | cn (n : Nat) (a : Ky)
structure IFn where
  body : IC
  res : List IR
abbrev KV := V → H → Nat
/-- an operation: what comes of it is handed on; or it fails -/
abbrev OpT := Fr → H → KV → Nat → Nat
--@REC
def Od.go {σ : Type} (s : Ky → σ) (c : V → σ) (x : Od) : σ := Od.rec (motive := fun _ => σ) s c x
def OI.go {σ : Type} (a : Option Ky → Option (Ky × Bool) → IOp → σ) (b : Option Ky → Option (Ky × Bool) → Od → List Od → σ) (x : OI) : σ := OI.rec (motive := fun _ => σ) a b x
def IOp.go {σ : Type} (mov : Od → σ) (pick : Od → Od → Od → σ) (new : TypeId → List V → σ) (box : TypeId → Od → σ) (agg : List V → List (Nat × Nat × Od) → σ) (bsl : TypeId → Nat → List V → List (Nat × Nat × Od) → σ)
    (ld : Od → σ) (ldn : Nat → Od → σ) (st : Nat → Od → Od → σ) (nilc : Od → σ) (bin : BinOp → QK → Od → Od → σ) (not neg : Od → σ) (cv : IntKind → Od → σ) (mkf : Nat → List Od → List Od → σ) (fad : Nat → Od → σ) (fld : Nat → Nat → Bool → Od → σ)
    (ixa : Nat → Nat → Od → Od → σ) (ixs : Nat → Od → Od → σ) (ix : Nat → Nat → Bool → Od → Od → σ) (ext : Od → Nat → σ) (lens : Od → σ) (mmx : Bool → Od → Od → σ) (msl : TypeId → V → Nat → Nat → Od → Od → σ) (slc : Nat → Od → Option Od → Option Od → Option Od → σ)
    (sla : Nat → Nat → Od → Option Od → Option Od → Option Od → σ) (app : TypeId → Nat → Nat → Od → Od → σ) (cpy : Nat → Od → Od → σ) (x : IOp) : σ :=
  IOp.rec (motive := fun _ => σ) mov pick new box agg bsl ld ldn st nilc bin not neg cv mkf fad fld ixa ixs ix ext lens mmx msl slc sla app cpy x
def icRec {σ : Type} (skip ret : σ) (exit : Nat → σ) (seq : σ → σ → σ) (cond : Ky → σ → σ → σ) (block : Nat → σ → σ) (loop : σ → σ) (ops qops : List OI → σ) (hops : List Ky → List (Bool × OI) → σ) (bad : σ) (x : IC) : σ :=
  IC.rec (motive := fun _ => σ) skip ret exit (fun _ _ a b => seq a b) (fun t _ _ a b => cond t a b) (fun i _ a => block i a) (fun _ a => loop a) ops qops hops bad x
def BinOp.go {σ : Type} (add sub mul quo rem and_ or_ xor_ shl shr andNot eql neq lss leq gtr geq : σ) (o : BinOp) : σ := BinOp.rec (motive := fun _ => σ) add sub mul quo rem and_ or_ xor_ shl shr andNot eql neq lss leq gtr geq o
--@END
def odS (p : Ky) : Fr → Option V := fun fr => fr.get p
def odC (v : V) : Fr → Option V := fun _ => some v
def od : Od → Fr → Option V := Od.go odS odC
def odsN : Fr → Option (List V) := fun _ => some []
def odsC (x : Od) (_ : List Od) (ih : Fr → Option (List V)) : Fr → Option (List V) := fun fr => oc (od x fr) (fun a => oc (ih fr) (fun b => some (a :: b)) none) none
def ods (l : List Od) : Fr → Option (List V) := lRec odsN odsC l

def newR (h : H) (t : TypeId) (l : List V) (v : P → V) (k : KV) (e : Nat) : Nat := bc (allB V.one l) (hnew h (.cells t l) (fun n h => k (v n) h)) e
def toE : V → Option (IntKind × SE)
  | .i k n => some (k, .lit n)
  | .si k e => some (k, e)
  | _ => none
def toB : V → Option SB
  | .sb c => some c
  | _ => none
def mkE (k : IntKind) (e : SE) : V := match e with
  | .lit n => .i k n
  | e => .si k e
/-- arithmetic on symbols, made simple where that is easy -/
def smart (o : BinOp) (k : IntKind) (a b : SE) : SE := .op o k a b
/-- cells that are alike, of literal and of symbolic numbers -/
def eqC (e : EK) (x y : V) : Option (Option SB × Bool) :=
  match e with
  | .int k => match x, y with
    | .i k1 a, .i k2 b => if kEq k1 k && kEq k2 k then some (none, iEq a b) else none
    | x, y => match toE x, toE y with
      | some (k1, a), some (k2, b) => if kEq k1 k && kEq k2 k then some (some (.cmp .eql a b), true) else none
      | _, _ => none
  | .bool => match x, y with
    | .b a, .b b => some (none, match a, b with
      | true, true | false, false => true
      | _, _ => false)
    | .sb c, .b true | .b true, .sb c => some (some c, true)
    | .sb c, .b false | .b false, .sb c => some (some (.not c), true)
    | _, _ => none
def andO : Option SB → Option SB → Option SB
  | none, y => y
  | x, none => x
  | some a, some b => some (.and a b)
def eqL : List EK → List V → List V → Option (Option SB × Bool)
  | [], [], [] => some (none, true)
  | e :: es, x :: xs, y :: ys => match eqC e x y, eqL es xs ys with
    | some (c, b), some (c', b') => some (andO c c', match b, b' with
      | true, true => true
      | _, _ => false)
    | _, _ => none
  | _, _, _ => none
def eqO (o : BinOp) (r : Option (Option SB × Bool)) : Option V :=
  match o, r with
  | .eql, some (none, b) => some (.b b)
  | .neq, some (none, b) => some (.b (!b))
  | .eql, some (some c, true) => some (.sb c)
  | .neq, some (some c, true) => some (.sb (.not c))
  | .eql, some (some c, false) => some (.b false)
  | .neq, some (some c, false) => some (.b true)
  | _, _ => none
/-! binary operations -/
def vInt {σ : Type} (x : V) (f : IntKind → Int → σ) (e : σ) : σ := match x with
  | .i k n => f k n
  | _ => e
def bSym (o : BinOp) (x y : V) : Option V := match toE x, toE y with
  | some (k, a), some (k', b) => bc (kEq k k') (some (mkE k (smart o k a b))) none
  | _, _ => none
def bAr (o : BinOp) (f : IntKind → Int → Int → Int) (_ : QK) (x y : V) : Option V :=
  vInt x (fun k a => vInt y (fun k' b => bc (kEq k k') (some (.i k (f k a b))) none) (bSym o x y)) (bSym o x y)
def bDvS (o : BinOp) (x y : V) : Option V := match toE x, y with
  | some (k, a), .i k' b => bc (kEq k k') (bc (iEq b 0) none (some (mkE k (smart o k a (.lit b))))) none
  | _, _ => none
def bDv (o : BinOp) (f : IntKind → Int → Int → Int) (_ : QK) (x y : V) : Option V :=
  vInt x (fun k a => vInt y (fun k' b => bc (kEq k k') (bc (iEq b 0) none (some (.i k (f k a b)))) none) (bDvS o x y)) (bDvS o x y)
def bShS (o : BinOp) (x y : V) : Option V := match toE x, y with
  | some (k, a), .i _ b => bc (iLe 0 b) (some (mkE k (smart o k a (.lit b)))) none
  | _, _ => none
def bSh (o : BinOp) (f : IntKind → Int → Int → Int) (_ : QK) (x y : V) : Option V :=
  vInt x (fun k a => vInt y (fun _ b => bc (iLe 0 b) (some (.i k (f k a b))) none) (bShS o x y)) (bShS o x y)
def bCmS (o : BinOp) (x y : V) : Option V := match toE x, toE y with
  | some (k, a), some (k', b) => bc (kEq k k') (some (.sb (.cmp o a b))) none
  | _, _ => none
def bCm (o : BinOp) (f : Int → Int → Bool) (_ : QK) (x y : V) : Option V :=
  vInt x (fun k a => vInt y (fun k' b => bc (kEq k k') (some (.b (f a b))) none) (bCmS o x y)) (bCmS o x y)
def bEqQ (o : BinOp) (q : QK) (x y : V) : Option V :=
  match q with
  | .num => bCmS o x y
  | .bool => eqO o (eqC .bool x y)
  | .ptr => match x, y with
    | .nil, .nil => eqO o (some (none, true))
    | .ptr .., .nil | .nil, .ptr .. => eqO o (some (none, false))
    | _, _ => none
  | .func => match x, y with
    | .fnil, .fnil => eqO o (some (none, true))
    | .fn .., .fnil | .fnil, .fn .. => eqO o (some (none, false))
    | _, _ => none
  | .slc => match x, y with
    | .snil, .snil => eqO o (some (none, true))
    | .sl .., .snil | .snil, .sl .. | .vec .., .snil | .snil, .vec .. => eqO o (some (none, false))
    | _, _ => none
  | .agg l => match x, y with
    | .agg a, .agg b => eqO o (eqL l a b)
    | _, _ => none
def bEq (o : BinOp) (f : Bool → Bool) (q : QK) (x y : V) : Option V :=
  vInt x (fun k a => vInt y (fun k' b => bc (kEq k k') (some (.b (f (iEq a b)))) none) (bEqQ o q x y)) (bEqQ o q x y)
def idB (x : Bool) : Bool := x
def fAdd (k : IntKind) (a b : Int) : Int := wrapF k (Int.add a b)
def fSub (k : IntKind) (a b : Int) : Int := wrapF k (Int.sub a b)
def fMul (k : IntKind) (a b : Int) : Int := wrapF k (Int.mul a b)
def fQuo (k : IntKind) (a b : Int) : Int := wrapF k (Int.tdiv a b)
def fRem (_ : IntKind) (a b : Int) : Int := Int.tmod a b
def fAnd (k : IntKind) (a b : Int) : Int := bitF k Nat.land (fun a b => a &&& b) a b
def fOr (k : IntKind) (a b : Int) : Int := bitF k Nat.lor (fun a b => a ||| b) a b
def fXor (k : IntKind) (a b : Int) : Int := bitF k Nat.xor (fun a b => a ^^^ b) a b
def fAndNot (k : IntKind) (a b : Int) : Int := bitF k (fun a b => Nat.xor a (Nat.land a b)) (fun a b => a &&& ~~~b) a b
def fShl (k : IntKind) (x n : Int) : Int := wrapF k (Int.mul x (.ofNat (Nat.pow 2 (Nat.min n.toNat k.bits))))
def fShr (k : IntKind) (x n : Int) : Int := intCase x (fun m => .ofNat (Nat.div m (Nat.pow 2 (Nat.min n.toNat k.bits)))) (fun _ => x.fdiv (2 ^ (min n.toNat k.bits)))
def binV (o : BinOp) (q : QK) (x y : V) : Option V :=
  BinOp.go (bAr .add fAdd) (bAr .sub fSub) (bAr .mul fMul) (bDv .quo fQuo) (bDv .rem fRem) (bAr .and fAnd) (bAr .or fOr) (bAr .xor fXor) (bSh .shl fShl) (bSh .shr fShr) (bAr .andNot fAndNot)
    (bEq .eql idB) (bEq .neq Bool.not) (bCm .lss iLt) (bCm .leq iLe) (bCm .gtr (fun a b => iLt b a)) (bCm .geq (fun a b => iLe b a)) o q x y
def fillN (_ : Fr) : List V → Option (List V) := fun z => some z
def fillC (fr : Fr) (p : Nat × Nat × Od) (_ : List (Nat × Nat × Od)) (ih : List V → Option (List V)) : List V → Option (List V) := fun z =>
  pc p (fun off q => pc q (fun sz x => oc (od x fr) (fun v => bc (Nat.beq (len v.cells) sz) (oc (spl z off v.cells) ih none) none) none))
def fill (fr : Fr) (z : List V) (ps : List (Nat × Nat × Od)) : Option (List V) := lRec (fillN fr) (fillC fr) ps z
def inI (k : Int) (n : Nat) : Option Nat := intCase k (fun m => bc (Nat.blt m n) (some m) none) (fun _ => none)
def inI' (k : Int) (n : Nat) : Option Nat := intCase k (fun m => bc (Nat.ble m n) (some m) none) (fun _ => none)
def cellAt (o : O) (off : Nat) : Option V :=
  match o with
  | .cells _ l => nth l off
  | .arr _ n d z tr => bc (Nat.blt off n) (oc (tr.get d off) some (some z)) none
  | .vec _ _ _ l => nth l off
  | .varr _ n d z tr => bc (Nat.blt off n) (oc (tr.get d off) some (some z)) none
  | .dead => none
def cellsAt (o : O) (off : Nat) : Nat → Option (List V)
  | 0 => some []
  | n + 1 => match cellAt o off, cellsAt o (off + 1) n with
    | some v, some l => some (v :: l)
    | _, _ => none
def loadN (o : O) (off n : Nat) : Option (List V) := match o with
  | .cells _ l => takeA n (dropA off l)
  | .vec _ _ _ l => takeA n (dropA off l)
  | o => cellsAt o off n
def setZ {σ : Type} : Nat → Tr V → (Tr V → σ) → σ := fun _ tr k => k tr
def setC {σ : Type} (d : Nat) (v : V) (_ : List V) (ih : Nat → Tr V → (Tr V → σ) → σ) : Nat → Tr V → (Tr V → σ) → σ := fun off tr k => tset tr d off v (fun tr => ih (Nat.succ off) tr k)
def setN {σ : Type} (d : Nat) (tr : Tr V) (off : Nat) (l : List V) (k : Tr V → σ) : σ := lRec setZ (setC d) l off tr k
/-- cells of a thing, written -/
def putN {σ : Type} (o : O) (off : Nat) (l : List V) (k : O → σ) (e : σ) : σ :=
  match o with
  | .cells t c => oc (spl c off l) (fun c => k (.cells t c)) e
  | .arr t n d z tr => bc (Nat.ble (Nat.add off (len l)) n) (setN d tr off l (fun tr => k (.arr t n d z tr))) e
  | .vec t x n c => oc (spl c off l) (fun c => k (.vec t x n c)) e
  | .varr t n d z tr => bc (Nat.ble (Nat.add off (len l)) n) (setN d tr off l (fun tr => k (.varr t n d z tr))) e
  | .dead => e
def put1 {σ : Type} (o : O) (off : Nat) (v : V) (k : O → σ) (e : σ) : σ :=
  match o with
  | .cells t c => oc (spl c off [v]) (fun c => k (.cells t c)) e
  | .arr t n d z tr => bc (Nat.blt off n) (tset tr d off v (fun tr => k (.arr t n d z tr))) e
  | .vec t x n c => oc (spl c off [v]) (fun c => k (.vec t x n c)) e
  | .varr t n d z tr => bc (Nat.blt off n) (tset tr d off v (fun tr => k (.varr t n d z tr))) e
  | .dead => e
/-- a slice: its thing, its first cell, its length, its capacity (none: it is not known); cells an element -/
def slOf : V → Option (P × Nat × Nat × Option Nat)
  | .sl id off n c => some (id, off, n, some c)
  | .vec id n => some (id, 0, n, none)
  | _ => none
def isWord : V → Bool
  | .i .. | .si .. => true
  | _ => false
def litN : Option V → Option (Option Int)
  | none => some none
  | some (.i _ n) => some (some n)
  | _ => none
def odO (fr : Fr) : Option Od → Option (Option V)
  | none => some none
  | some x => (od x fr).map some
def bndM (c : Nat) (mx : Option Int) : Option Nat := match mx with
  | some v => inI' v c
  | none => some c
def bndH (n c m : Nat) (hi mx : Option Int) : Option Nat := match hi, mx with
  | some v, some _ => inI' v m
  | some v, none => inI' v c
  | none, none => some n
  | none, some _ => none
def bndL (h : Nat) (lo : Option Int) : Option Nat := match lo with
  | some v => inI' v h
  | none => some 0
/-- bounds: low, high, max; len, cap -/
def bnds (n c : Nat) (lo hi mx : Option Int) : Option (Nat × Nat × Nat) :=
  oc (bndM c mx) (fun m => oc (bndH n c m hi mx) (fun h => oc (bndL h lo) (fun l => some (l, h, m)) none) none) none
/-! each operation -/
def eMov (x : Od) : OpT := fun fr h k e => oc (od x fr) (fun v => k v h) e
def ePick (c a b : Od) : OpT := fun fr h k e => match od c fr with
  | some (.b true) => oc (od a fr) (fun v => k v h) e
  | some (.b false) => oc (od b fr) (fun v => k v h) e
  | _ => e
def eNew (t : TypeId) (l : List V) : OpT := fun _ h k e => newR h t l (fun n => .ptr n 0) k e
def eBox (t : TypeId) (x : Od) : OpT := fun fr h k e => oc (od x fr) (fun v => newR h t v.cells (fun n => .ptr n 0) k e) e
def eAgg (z : List V) (ps : List (Nat × Nat × Od)) : OpT := fun fr h k e => oc (fill fr z ps) (fun l => k (.agg l) h) e
def eBsl (t : TypeId) (n : Nat) (z : List V) (ps : List (Nat × Nat × Od)) : OpT := fun fr h k e => oc (fill fr z ps) (fun l => newR h t l (fun i => .sl i 0 n n) k e) e
def vPtr {σ : Type} (x : Option V) (f : P → Nat → σ) (e : σ) : σ := match x with
  | some (.ptr id off) => f id off
  | _ => e
def eLd (a : Od) : OpT := fun fr h k e => vPtr (od a fr) (fun id off => oc (hget h id) (fun o => oc (cellAt o off) (fun v => k v h) e) e) e
def eLdn (n : Nat) (a : Od) : OpT := fun fr h k e => vPtr (od a fr) (fun id off => oc (hget h id) (fun o => oc (loadN o off n) (fun l => k (.agg l) h) e) e) e
def eSt1 (a x : Od) : OpT := fun fr h k e => vPtr (od a fr) (fun id off => oc (od x fr) (fun v => bc (hmay h id) (oc (hget h id) (fun o => bc v.one (put1 o off v (fun o' => hset h id o' (fun h => k (.tup []) h)) e) e) e) e) e) e
def eStN (n : Nat) (a x : Od) : OpT := fun fr h k e => vPtr (od a fr) (fun id off => oc (od x fr) (fun v => bc (hmay h id) (oc (hget h id) (fun o =>
  bc (Nat.beq (len v.cells) n) (bc (allB V.one v.cells) (putN o off v.cells (fun o' => hset h id o' (fun h => k (.tup []) h)) e) e) e) e) e) e) e
def eSt (n : Nat) (a x : Od) : OpT := bc (Nat.beq n 1) (eSt1 a x) (eStN n a x)
def eNilc (x : Od) : OpT := fun fr h k e => vPtr (od x fr) (fun id off => k (.ptr id off) h) e
def eBin (o : BinOp) (q : QK) (x y : Od) : OpT := fun fr h k e => oc (od x fr) (fun a => oc (od y fr) (fun b => oc (binV o q a b) (fun v => k v h) e) e) e
def eNot (x : Od) : OpT := fun fr h k e => match od x fr with
  | some (.b b) => k (.b (!b)) h
  | some (.sb c) => k (.sb (.not c)) h
  | _ => e
def eNeg (x : Od) : OpT := fun fr h k e => match od x fr with
  | some (.i t n) => k (.i t (fSub t 0 n)) h
  | some (.si t x) => k (mkE t (smart .sub t (.lit 0) x)) h
  | _ => e
def eCv (t : IntKind) (x : Od) : OpT := fun fr h k e => match od x fr with
  | some (.i _ n) => k (.i t (wrapF t n)) h
  | some (.si _ x) => k (.si t (.cv t x)) h
  | _ => e
def eMkf (F : Nat) (pre caps : List Od) : OpT := fun fr h k e => match ods pre fr, ods caps fr with
  | some p, some l => k (.fn F p l) h
  | _, _ => e
def eFad (off : Nat) (x : Od) : OpT := fun fr h k e => vPtr (od x fr) (fun id o => k (.ptr id (Nat.add o off)) h) e
def vAgg {σ : Type} (x : Option V) (f : List V → σ) (e : σ) : σ := match x with
  | some (.agg l) => f l
  | _ => e
def vLit {σ : Type} (x : Option V) (f : Int → σ) (e : σ) : σ := match x with
  | some (.i _ n) => f n
  | _ => e
def eFld (off sz : Nat) (g : Bool) (x : Od) : OpT := fun fr h k e => vAgg (od x fr) (fun l => oc (part l off sz g) (fun v => k v h) e) e
def eIxa (n esz : Nat) (x i : Od) : OpT := fun fr h k e => vPtr (od x fr) (fun id off => vLit (od i fr) (fun j => oc (inI j n) (fun j => k (.ptr id (Nat.add off (Nat.mul j esz))) h) e) e) e
def vSl {σ : Type} (x : Option V) (f : P → Nat → Nat → σ) (e : σ) : σ := match x with
  | some (.sl id off n _) => f id off n
  | some (.vec id n) => f id 0 n
  | _ => e
def eIxs (esz : Nat) (x i : Od) : OpT := fun fr h k e => vSl (od x fr) (fun id off n => vLit (od i fr) (fun j => oc (inI j n) (fun j => k (.ptr id (Nat.add off (Nat.mul j esz))) h) e) e) e
def eIx (n esz : Nat) (g : Bool) (x i : Od) : OpT := fun fr h k e => vAgg (od x fr) (fun l => vLit (od i fr) (fun j => oc (inI j n) (fun j => oc (part l (Nat.mul j esz) esz g) (fun v => k v h) e) e) e) e
def vTup {σ : Type} (x : Option V) (f : List V → σ) (e : σ) : σ := match x with
  | some (.tup l) => f l
  | _ => e
def eExt (x : Od) (i : Nat) : OpT := fun fr h k e => vTup (od x fr) (fun l => oc (nth l i) (fun v => k v h) e) e
def eLens (x : Od) : OpT := fun fr h k e => match od x fr with
  | some .snil => k (.i .i64 0) h
  | some (.sl _ _ n _) => k (.i .i64 (.ofNat n)) h
  | some (.vec _ n) => k (.i .i64 (.ofNat n)) h
  | _ => e
def mmS (mx : Bool) (x y : V) : Option V := match toE x, toE y with
  | some (k, a), some (k', b) => bc (kEq k k') (some (.si k (.mm mx a b))) none
  | _, _ => none
def eMmx (mx : Bool) (x y : Od) : OpT := fun fr h k e => match od x fr, od y fr with
  | some (.i t a), some (.i _ b) => bc mx (k (.i t (bc (iLt a b) b a)) h) (k (.i t (bc (iLt b a) b a)) h)
  | some x, some y => oc (mmS mx x y) (fun v => k v h) e
  | _, _ => e
def eMsl (t : TypeId) (z : V) (esz by_ : Nat) (n c : Od) : OpT := fun fr h k e => match od n fr, od c fr with
  | some (.i _ (.ofNat n)), some (.i _ (.ofNat c)) =>
    bc (Nat.beq esz 1 && V.one z && Nat.ble n c && Nat.ble (by_ * c) 281474976710656)
      (bc (Nat.ble c 8192) (hnew h (.arr t c 13 z .nil) (fun i h => k (.sl i 0 n c) h)) (bc (Nat.ble c 65536) (hnew h (.arr t c 16 z .nil) (fun i h => k (.sl i 0 n c) h)) e)) e
  | _, _ => e
def eSlc (esz : Nat) (x : Od) (lo hi mx : Option Od) : OpT := fun fr h k e => match od x fr, odO fr lo, odO fr hi, odO fr mx with
  | some x, some lo, some hi, some mx => match litN lo, litN hi, litN mx with
    | some lo, some hi, some mx => match x with
      | .sl id off n c => match bnds n c lo hi mx with
        | some (l, r, m) => k (.sl id (bc (Nat.beq m l) off (off + l * esz)) (r - l) (m - l)) h
        | none => e
      | .snil => match bnds 0 0 lo hi mx with
        | some _ => k .snil h
        | none => e
      | _ => e
    | _, _, _ => e
  | _, _, _, _ => e
def eSla (n esz : Nat) (x : Od) (lo hi mx : Option Od) : OpT := fun fr h k e => match od x fr, odO fr lo, odO fr hi, odO fr mx with
  | some (.ptr id off), some lo, some hi, some mx => match litN lo, litN hi, litN mx with
    | some lo, some hi, some mx => match bnds n n lo hi mx with
      | some (l, r, m) => k (.sl id (bc (Nat.beq m l) off (off + l * esz)) (r - l) (m - l)) h
      | none => e
    | _, _, _ => e
  | _, _, _, _ => e
/-- what is appended: how many elements, their cells -/
def newOf (h : H) (esz : Nat) (y : V) : Option (Nat × List V) := match slOf y with
  | some (id, off, n, _) => match hget h id with
    | some o => match loadN o off (n * esz) with
      | some l => some (n, l)
      | none => none
    | none => none
  | none => none
def roomB (n by_ : Nat) : Bool := Nat.ble (n * by_) 140737488355328 && Nat.ble n 1099511627776
def appV (h : H) (t : TypeId) (esz by_ : Nat) (x y : V) (k : KV) (e : Nat) : Nat := match newOf h esz y with
    | none => e
    | some (n, l) => bc (Nat.ble 1 n) (bc (allB V.one l) (match x with
      | .snil => bc (roomB n by_) (hnew h (.vec t esz n l) (fun i h => k (.vec i n) h)) e
      | .vec id m => bc (hmay h id) (bc (roomB (m + n) by_) (match hget h id with
        | some (.vec t' e' m' c) => bc (Nat.beq t t' && Nat.beq esz e' && Nat.beq m m') (hset h id .dead (fun h => hnew h (.vec t esz (m + n) (app c l)) (fun i h => k (.vec i (m + n)) h))) e
        | _ => e) e) e
      | .sl id off m c => bc (Nat.beq m c) (bc (roomB (m + n) by_) (match hget h id with
        | some o => match loadN o off (m * esz) with
          | some c => hnew h (.vec t esz (m + n) (app c l)) (fun i h => k (.vec i (m + n)) h)
          | none => e
        | none => e) e) e
      | _ => e) e) e
def eApp (t : TypeId) (esz by_ : Nat) (x y : Od) : OpT := fun fr h k e => oc (od x fr) (fun x => oc (od y fr) (fun y => appV h t esz by_ x y k e) e) e
def allTr (p : V → Bool) (t : Tr V) : Bool := Tr.rec (motive := fun _ => Bool) true (fun a => p a) (fun _ _ a b => bc a b false) t
def cpyO (o o2 : O) (id : P) (off n off2 n2 esz : Nat) (h : H) (k : KV) (e : Nat) : Nat := match loadN o2 off2 ((Nat.min n n2) * esz) with
  | some l => bc (allB V.one l) (putN o off l (fun o' => hset h id o' (fun h => k (.i .i64 (Nat.min n n2)) h)) e) e
  | none => e
def cpyV (h : H) (esz : Nat) (x y : V) (k : KV) (e : Nat) : Nat := match slOf x, slOf y with
    | some (id, off, n, _), some (id2, off2, n2, _) => bc (hmay h id) (match hget h id, hget h id2 with
      | some o, some o2 => match o, o2 with
        | .arr t a d z tr, .arr t2 a2 d2 z2 tr2 => bc (Nat.beq n a && Nat.beq n2 a2 && Nat.beq n n2 && Nat.beq off 0 && Nat.beq off2 0 && Nat.beq esz 1 && V.one z2 && allTr V.one tr2) (hset h id (.arr t a d2 z2 tr2) (fun h => k (.i .i64 n) h)) (cpyO o o2 id off n off2 n2 esz h k e)
        | o, o2 => cpyO o o2 id off n off2 n2 esz h k e
      | _, _ => e) e
    | _, _ => e
def eCpy (esz : Nat) (x y : Od) : OpT := fun fr h k e => oc (od x fr) (fun x => oc (od y fr) (fun y => cpyV h esz x y k e) e) e
def evI : IOp → OpT := IOp.go eMov ePick eNew eBox eAgg eBsl eLd eLdn eSt eNilc eBin eNot eNeg eCv eMkf eFad eFld eIxa eIxs eIx eExt eLens eMmx eMsl eSlc eSla eApp eCpy

/-! ### code -/
inductive AE where
  | normal | ret | exit (n : Nat)
abbrev K := V → H → Fa → Nat
abbrev CallT := Nat → List V → H → Fa → K → Nat
structure Ctx where
  call : CallT
  F : Nat
  fuel : Nat
abbrev K1 := Fr → H → Fa → Nat
abbrev S1 := Ctx → Fr → H → Fa → K1 → Nat
abbrev K2 := AE → Fr → H → Fa → Nat
abbrev S2 := Ctx → Fr → H → Fa → K2 → Nat
def err (g : Ctx) (n : Nat) : Nat := Nat.succ (Nat.add (Nat.mul g.F 100) n)
def both (a b : Nat) : Nat := natCase b (fun m => Nat.succ m) a
def way (fa : Fa) (v : Option V) (k : Bool → Fa → Nat) (e : Nat) : Nat :=
  match v with
  | some (.b x) => k x fa
  | some (.sb c) => match c.ask fa with
    | some x => k x fa
    | none => both (k true ⟨(c, true) :: fa.l, fa.r⟩) (k false ⟨(c, false) :: fa.l, fa.r⟩)
  | _ => e
def putF (d : Option Ky) (v : V) (fr : Fr) (k : Fr → Nat) : Nat := oc d (fun p => setF p fr v k) (k fr)
/-- a number of which a truth says which one it is -/
def askE : List (SB × Bool) → SE → Option Int
  | [], _ => none
  | (.cmp .eql a (.lit n), true) :: r, e => if SE.beq a e then some n else askE r e
  | _ :: r, e => askE r e
/-- a value, told by what is known -/
def nrmK {σ : Type} (fa : Fa) (v : V) (k : V → σ) : σ := match v with
  | .si t e => oc (askE fa.l e) (fun n => k (.i t n)) (k v)
  | .sb c => oc (c.ask fa) (fun b => k (.b b)) (k v)
  | _ => k v
def putF' (d : Option Ky) (fa : Fa) (v : V) (fr : Fr) (k : Fr → Nat) : Nat := nrmK fa v (fun v => putF d v fr k)
def opCode (i : IOp) : Nat := IOp.go (fun _ => 10) (fun _ _ _ => 11) (fun _ _ => 12) (fun _ _ => 13) (fun _ _ => 14) (fun _ _ _ _ => 15) (fun _ => 16) (fun _ _ => 17) (fun _ _ _ => 18) (fun _ => 19)
  (fun _ _ _ _ => 20) (fun _ => 21) (fun _ => 22) (fun _ _ => 23) (fun _ _ _ => 24) (fun _ _ => 25) (fun _ _ _ _ => 26) (fun _ _ _ _ => 27) (fun _ _ _ => 28) (fun _ _ _ _ _ => 29)
  (fun _ _ => 30) (fun _ => 31) (fun _ _ _ => 32) (fun _ _ _ _ _ _ => 33) (fun _ _ _ _ _ => 34) (fun _ _ _ _ _ _ => 35) (fun _ _ _ _ _ => 36) (fun _ _ _ => 37) i
/-- was it left out? -/
def isTup (x : Option V) : Bool := match x with
  | some (.tup _) => true
  | _ => false
/-- is it wanted? k: it is; s: it is not -/
def guardT (c : Ctx) (g : Option (Ky × Bool)) (fr : Fr) (fa : Fa) (k s : Fa → Nat) : Nat :=
  oc g (fun g => pc g (fun t want => bc (isTup (fr.get t)) (s fa) (way fa (fr.get t) (fun x fa => bc x (bc want (k fa) (s fa)) (bc want (s fa) (k fa))) (err c 40)))) (k fa)
def stepOp (d : Option Ky) (g : Option (Ky × Bool)) (i : IOp) : S1 := fun c fr h fa k =>
  guardT c g fr fa (fun fa => evI i fr h (fun v h => putF' d fa v fr (fun fr => k fr h fa)) (err c (opCode i))) (fun fa => putF d (.tup []) fr (fun fr => k fr h fa))
def vFn {σ : Type} (x : Option V) (f : Nat → List V → List V → σ) (e : σ) : σ := match x with
  | some (.fn F p l) => f F p l
  | _ => e
def callD (f : Od) (args : List Od) (c : Ctx) (fr : Fr) (h : H) (fa : Fa) (k : K) : Nat :=
  vFn (od f fr) (fun G pre caps => oc (ods args fr) (fun l => c.call G (app pre (app l caps)) h fa k) (err c 39)) (err c 38)
def stepCall (d : Option Ky) (g : Option (Ky × Bool)) (f : Od) (args : List Od) : S1 := fun c fr h fa k =>
  guardT c g fr fa (fun fa => callD f args c fr h fa (fun v h fa => putF d v fr (fun fr => k fr h fa))) (fun fa => putF d (.tup []) fr (fun fr => k fr h fa))
def opsN : S1 := fun _ fr h fa k => k fr h fa
def opsC (o : OI) (_ : List OI) (ih : S1) : S1 := fun c fr h fa k => OI.go stepOp stepCall o c fr h fa (fun fr h fa => ih c fr h fa k)
def opsT (l : List OI) : S1 := lRec opsN opsC l
def stillO (i : IOp) : Bool := IOp.go (fun _ => true) (fun _ _ _ => true) (fun _ _ => false) (fun _ _ => false) (fun _ _ => true) (fun _ _ _ _ => false) (fun _ => true) (fun _ _ => true) (fun _ _ _ => false) (fun _ => true)
  (fun _ _ _ _ => true) (fun _ => true) (fun _ => true) (fun _ _ => true) (fun _ _ _ => true) (fun _ _ => true) (fun _ _ _ _ => true) (fun _ _ _ _ => true) (fun _ _ _ => true) (fun _ _ _ _ _ => true)
  (fun _ _ => true) (fun _ => true) (fun _ _ _ => true) (fun _ _ _ _ _ _ => false) (fun _ _ _ _ _ => true) (fun _ _ _ _ _ _ => true) (fun _ _ _ _ _ => false) (fun _ _ _ => false) i
mutual
def V.bdB (n : P) : V → Bool
  | .ptr id _ => pLt id n
  | .sl id _ _ _ => pLt id n
  | .vec id _ => pLt id n
  | .fn _ pre caps => bdLB n pre && bdLB n caps
  | .agg l => bdLB n l
  | .tup l => bdLB n l
  | _ => true
def bdLB (n : P) : List V → Bool
  | [] => true
  | v :: r => match v.bdB n with
    | true => bdLB n r
    | false => false
end
/-- operations that leave the things as they are -/
def qOp (d : Option Ky) (g : Option (Ky × Bool)) (i : IOp) : S1 := fun c fr h fa k =>
  guardT c g fr fa (fun fa => bc (stillO i) (evI i fr h (fun v _ => putF' d fa v fr (fun fr => k fr h fa)) (err c (opCode i))) (err c 41)) (fun fa => putF d (.tup []) fr (fun fr => k fr h fa))
def callB (c : CallT) (F : Nat) : CallT := fun G l h fa k => bc (hc h (fun n _ _ => bdLB n l)) (c G l h fa k) (Nat.succ (Nat.add (Nat.mul F 100) 43))
def qCall (d : Option Ky) (g : Option (Ky × Bool)) (f : Od) (args : List Od) : S1 := fun c fr h fa k =>
  guardT c g fr fa (fun fa => callD f args ⟨callB c.call c.F, c.F, c.fuel⟩ fr (hro h) fa (fun v _ fa => bc (hc h (fun n _ _ => v.bdB n)) (putF d v fr (fun fr => k fr h fa)) (err c 42))) (fun fa => putF d (.tup []) fr (fun fr => k fr h fa))
def qopsC (o : OI) (_ : List OI) (ih : S1) : S1 := fun c fr h fa k => OI.go qOp qCall o c fr h fa (fun fr h fa => ih c fr h fa k)
def qopsT (l : List OI) : S1 := lRec opsN qopsC l
/-- the things at these slots are not looked at -/
def deadZ : H → (H → Nat) → Nat := fun h k => k h
def deadC (fr : Fr) (e : Nat) (s : Ky) (_ : List Ky) (ih : H → (H → Nat) → Nat) : H → (H → Nat) → Nat := fun h k => vPtr (fr.get s) (fun id _ => hset h id .dead (fun h => ih h k)) e
def deadT (fr : Fr) (e : Nat) (l : List Ky) : H → (H → Nat) → Nat := lRec deadZ (deadC fr e) l
def isDead (hS : H) (id : P) : Bool := hc hS (fun n _ t => bc (pLe n id) true (match t.get id with
  | some .dead => true
  | _ => false))
/-- operations that make a thing, or write one that is not looked at, or calls that write none of the elder things -/
def makesO (i : IOp) (fr : Fr) (hS : H) : Bool := match i with
  | .new .. | .box .. | .bsl .. => true
  | .st _ a _ => vPtr (od a fr) (fun id _ => isDead hS id) false
  | _ => false
def hOp (hS : H) (d : Option Ky) (g : Option (Ky × Bool)) (i : IOp) : S1 := fun c fr h fa k =>
  oc g (fun _ => err c 60) (bc (makesO i fr hS) (evI i fr h (fun v h => putF' d fa v fr (fun fr => k fr h fa)) (err c (opCode i))) (err c 61))
def hCall (hS : H) (d : Option Ky) (g : Option (Ky × Bool)) (f : Od) (args : List Od) : S1 := fun c fr h fa k =>
  oc g (fun _ => err c 62) (hc h (fun n lo t => hc hS (fun m _ _ => bc (pLe lo m) (callD f args c fr ⟨n, m, t⟩ fa (fun v h' fa => hc h' (fun n' _ t' => putF d v fr (fun fr => k fr ⟨n', lo, t'⟩ fa)))) (err c 65))))
def hNo (_ : Option Ky) (_ : Option (Ky × Bool)) (_ : Od) (_ : List Od) : S1 := fun c _ _ _ _ => err c 63
def hStep (hS : H) (o : Bool × OI) : S1 := pc o (fun q o => bc q
  (fun c fr h fa k => OI.go qOp hNo o c fr hS fa (fun fr _ fa => k fr h fa))
  (OI.go (hOp hS) (hCall hS) o))
def hopsC (hS : H) (o : Bool × OI) (_ : List (Bool × OI)) (ih : S1) : S1 := fun c fr h fa k => hStep hS o c fr h fa (fun fr h fa => ih c fr h fa k)
def hopsT (hS : H) (l : List (Bool × OI)) : S1 := lRec opsN (hopsC hS) l
def cSkip : S2 := fun _ fr h fa k => k .normal fr h fa
def cRet : S2 := fun _ fr h fa k => k .ret fr h fa
def cExit (i : Nat) : S2 := fun _ fr h fa k => k (.exit i) fr h fa
def aeGo {σ : Type} (e : AE) (a : σ) (r : σ) (x : Nat → σ) : σ := match e with
  | .normal => a
  | .ret => r
  | .exit i => x i
def cSeq (ra rb : S2) : S2 := fun c fr h fa k => ra c fr h fa (fun e fr h fa => aeGo e (rb c fr h fa k) (k .ret fr h fa) (fun i => k (.exit i) fr h fa))
def cCond (t : Ky) (ra rb : S2) : S2 := fun c fr h fa k => way fa (fr.get t) (fun x fa => bc x (ra c fr h fa k) (rb c fr h fa k)) (err c 44)
def cBlock (i : Nat) (ra : S2) : S2 := fun c fr h fa k => ra c fr h fa (fun e fr h fa => aeGo e (k .normal fr h fa) (k .ret fr h fa) (fun j => bc (Nat.beq j i) (k .normal fr h fa) (k (.exit j) fr h fa)))
def loopZ : S2 := fun c _ _ _ _ => err c 45
def loopS (ra : S2) (_ : Nat) (ih : S2) : S2 := fun c fr h fa k => ra c fr h fa (fun e fr h fa => aeGo e (ih c fr h fa k) (k .ret fr h fa) (fun i => k (.exit i) fr h fa))
--@REC
def loopN (ra : S2) (n : Nat) : S2 := Nat.rec (motive := fun _ => S2) loopZ (loopS ra) n
--@END
def cLoop (ra : S2) : S2 := fun c => loopN ra c.fuel c
def cOps (l : List OI) : S2 := fun c fr h fa k => opsT l c fr h fa (fun fr h fa => k .normal fr h fa)
def cQops (l : List OI) : S2 := fun c fr h fa k => qopsT l c fr h fa (fun fr h fa => k .normal fr h fa)
def cHops (bs : List Ky) (l : List (Bool × OI)) : S2 := fun c fr h fa k => deadT fr (err c 64) bs h (fun hS => hopsT hS l c fr h fa (fun fr h fa => k .normal fr h fa))
def cBad : S2 := fun c _ _ _ _ => err c 46
def codeT : IC → S2 := icRec cSkip cRet cExit cSeq cCond cBlock cLoop cOps cQops cHops cBad
def resV (fr : Fr) (h : H) : IR → Option V
  | .tmp t => fr.get t
  | .c1 a => vPtr (fr.get a) (fun id off => oc (hget h id) (fun o => cellAt o off) none) none
  | .cn n a => vPtr (fr.get a) (fun id off => oc (hget h id) (fun o => (loadN o off n).map .agg) none) none
def resC (fr : Fr) (h : H) (r : IR) (_ : List IR) (ih : Option (List V)) : Option (List V) := oc (resV fr h r) (fun a => oc ih (fun b => some (a :: b)) none) none
def resVs (fr : Fr) (h : H) (l : List IR) : Option (List V) := lRec (some []) (resC fr h) l
def resT (rs : List IR) (fr : Fr) (h : H) (k : V → Nat) (e : Nat) : Nat :=
  oc (resVs fr h rs) (fun l => lCase (k (.tup [])) (fun v r => lCase (k v) (fun _ _ => k (.tup l)) r) l) e
def initN : Nat → Fr → (Fr → Nat) → Nat := fun _ fr k => k fr
def initC (v : V) (_ : List V) (ih : Nat → Fr → (Fr → Nat) → Nat) : Nat → Fr → (Fr → Nat) → Nat := fun i fr k => setF (keyOf i) fr v (fun fr => ih (Nat.succ i) fr k)
def initFr (l : List V) (k : Fr → Nat) : Nat := lRec initN initC l 0 .e k
structure Cx where
  fn : Nat → Option IFn
  hook : Nat → Option (List V → H → Fa → K → Nat)
  fuel : Nat
def callZ : CallT := fun F _ _ _ _ => Nat.succ (Nat.add (Nat.mul F 100) 47)
def callF (C : Cx) (ih : CallT) (F : Nat) (f : IFn) (l : List V) (h : H) (fa : Fa) (k : K) : Nat :=
  initFr l (fun fr => codeT f.body ⟨ih, F, C.fuel⟩ fr h fa (fun e fr h fa => aeGo e (resT f.res fr h (fun v => k v h fa) (Nat.succ (Nat.add (Nat.mul F 100) 49))) (resT f.res fr h (fun v => k v h fa) (Nat.succ (Nat.add (Nat.mul F 100) 49))) (fun _ => Nat.succ (Nat.add (Nat.mul F 100) 48))))
def callS (C : Cx) (_ : Nat) (ih : CallT) : CallT := fun F l h fa k => oc (C.hook F) (fun s => s l h fa k) (oc (C.fn F) (fun f => callF C ih F f l h fa k) (Nat.succ (Nat.add (Nat.mul F 100) 51)))
--@REC
def callT (C : Cx) (n : Nat) : CallT := Nat.rec (motive := fun _ => CallT) callZ (callS C) n
--@END
end Go.Ev
end
