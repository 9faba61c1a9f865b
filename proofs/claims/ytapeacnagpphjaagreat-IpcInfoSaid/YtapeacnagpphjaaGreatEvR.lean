/-
  Recursion as the kernel likes it; tries.
-/
import Derived.WalkKit
set_option linter.unusedSimpArgs false
set_option linter.unusedVariables false
noncomputable section
namespace Go.Ev
open Go
/-- keys: positive numbers, the least bit first -/
inductive P where
  | h | o (p : P) | i (p : P)
/-- a trie by keys -/
inductive PT (α : Type) where
  | e | n (v : Option α) (l r : PT α)
/-- a trie of a fixed depth by numbers -/
inductive Tr (α : Type) where
  | nil | leaf (a : α) | node (l r : Tr α)
def oc {α β : Type} (x : Option α) (f : α → β) (e : β) : β := Option.rec (motive := fun _ => β) e f x
def bc {β : Type} (x : Bool) (t e : β) : β := Bool.rec (motive := fun _ => β) e t x
def pc {α β γ : Type} (x : α × β) (f : α → β → γ) : γ := Prod.rec (motive := fun _ => γ) f x
def natCase {β : Type} (z : β) (s : Nat → β) (n : Nat) : β := Nat.rec (motive := fun _ => β) z (fun m _ => s m) n
def intCase {β : Type} (n : Int) (f g : Nat → β) : β := Int.rec (motive := fun _ => β) f g n
def P.toNat (p : P) : Nat := P.rec (motive := fun _ => Nat) 1 (fun _ x => Nat.mul 2 x) (fun _ x => Nat.succ (Nat.mul 2 x)) p
def P.succ (p : P) : P := P.rec (motive := fun _ => P) (.o .h) (fun p _ => .i p) (fun _ x => .o x) p
def PT.get {α : Type} (t : PT α) (p : P) : Option α :=
  P.rec (motive := fun _ => PT α → Option α)
    (fun t => PT.rec (motive := fun _ => Option α) none (fun v _ _ _ _ => v) t)
    (fun _ ih t => PT.rec (motive := fun _ => Option α) none (fun _ l _ _ _ => ih l) t)
    (fun _ ih t => PT.rec (motive := fun _ => Option α) none (fun _ _ r _ _ => ih r) t) p t
def PT.set {α : Type} (t : PT α) (p : P) (a : α) : PT α :=
  P.rec (motive := fun _ => PT α → PT α)
    (fun t => PT.rec (motive := fun _ => PT α) (.n (some a) .e .e) (fun _ l r _ _ => .n (some a) l r) t)
    (fun _ ih t => PT.rec (motive := fun _ => PT α) (.n none (ih .e) .e) (fun v l r _ _ => .n v (ih l) r) t)
    (fun _ ih t => PT.rec (motive := fun _ => PT α) (.n none .e (ih .e)) (fun v l r _ _ => .n v l (ih r)) t) p t
/-- a key set, what comes of it handed on -/
def setK {α β : Type} (p : P) (t : PT α) (a : α) (k : PT α → β) : β :=
  P.rec (motive := fun _ => PT α → (PT α → β) → β)
    (fun t k => PT.rec (motive := fun _ => β) (k (.n (some a) .e .e)) (fun _ l r _ _ => k (.n (some a) l r)) t)
    (fun _ ih t k => PT.rec (motive := fun _ => β) (ih .e (fun l => k (.n none l .e))) (fun v l r _ _ => ih l (fun l => k (.n v l r))) t)
    (fun _ ih t k => PT.rec (motive := fun _ => β) (ih .e (fun r => k (.n none .e r))) (fun v l r _ _ => ih r (fun r => k (.n v l r))) t) p t k
def succK {β : Type} (p : P) (k : P → β) : β :=
  P.rec (motive := fun _ => (P → β) → β) (fun k => k (.o .h)) (fun p _ k => k (.i p)) (fun _ ih k => ih (fun p => k (.o p))) p k
def isH (p : P) : Bool := P.rec (motive := fun _ => Bool) true (fun _ _ => false) (fun _ _ => false) p
def pLe (a b : P) : Bool := Nat.ble a.toNat b.toNat
def pLt (a b : P) : Bool := Nat.blt a.toNat b.toNat
def even (k : Nat) : Bool := Nat.beq (Nat.mod k 2) 0
def Tr.get {α : Type} (t : Tr α) (d : Nat) (k : Nat) : Option α :=
  Nat.rec (motive := fun _ => Tr α → Nat → Option α)
    (fun t _ => Tr.rec (motive := fun _ => Option α) none some (fun _ _ _ _ => none) t)
    (fun _ ih t k => Tr.rec (motive := fun _ => Option α) none (fun _ => none) (fun l r _ _ => Bool.rec (motive := fun _ => Option α) (ih r (Nat.div k 2)) (ih l (Nat.div k 2)) (even k)) t)
    d t k
def Tr.set {α : Type} (t : Tr α) (d : Nat) (k : Nat) (a : α) : Tr α :=
  Nat.rec (motive := fun _ => Tr α → Nat → Tr α)
    (fun _ _ => .leaf a)
    (fun _ ih t k => Bool.rec (motive := fun _ => Tr α)
      (Tr.rec (motive := fun _ => Tr α) (.node .nil (ih .nil (Nat.div k 2))) (fun _ => .node .nil (ih .nil (Nat.div k 2))) (fun l r _ _ => .node l (ih r (Nat.div k 2))) t)
      (Tr.rec (motive := fun _ => Tr α) (.node (ih .nil (Nat.div k 2)) .nil) (fun _ => .node (ih .nil (Nat.div k 2)) .nil) (fun l r _ _ => .node (ih l (Nat.div k 2)) r) t)
      (even k))
    d t k
def tset {α β : Type} (t : Tr α) (d : Nat) (j : Nat) (a : α) (k : Tr α → β) : β :=
  Nat.rec (motive := fun _ => Tr α → Nat → (Tr α → β) → β) (fun _ _ k => k (.leaf a)) (fun _ ih t j k =>
    Bool.rec (motive := fun _ => β)
      (Tr.rec (motive := fun _ => β) (ih .nil (Nat.div j 2) (fun r => k (.node .nil r))) (fun _ => ih .nil (Nat.div j 2) (fun r => k (.node .nil r))) (fun l r _ _ => ih r (Nat.div j 2) (fun r => k (.node l r))) t)
      (Tr.rec (motive := fun _ => β) (ih .nil (Nat.div j 2) (fun l => k (.node l .nil))) (fun _ => ih .nil (Nat.div j 2) (fun l => k (.node l .nil))) (fun l r _ _ => ih l (Nat.div j 2) (fun l => k (.node l r))) t)
      (even j)) d t j k
/-! lists -/
def lRec {α σ : Type} (z : σ) (s : α → List α → σ → σ) (l : List α) : σ := List.rec (motive := fun _ => σ) z s l
end Go.Ev
end
