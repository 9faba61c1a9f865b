/-
  Calls whose end is known already.
-/
import Derived.Test.YtapeacnagpphjaaGreatEvT
set_option linter.unusedSimpArgs false
set_option linter.unusedVariables false
noncomputable section
namespace Go.Ev
open Go
variable {E : Env} {P : Program}
def pEq (a b : Ev.P) : Bool := Nat.beq a.toNat b.toNat
theorem pEq_ok {a b : Ev.P} (h : pEq a b = true) : a = b := P.toNat_inj (by simpa [pEq] using h)
def boEq (a b : Bool) : Bool := bc a b (bc b false true)
theorem boEq_ok {a b : Bool} (h : boEq a b = true) : a = b := by cases a <;> cases b <;> simp [boEq, bc] at h ⊢
mutual
def V.beq : V → V → Bool
  | .b x, .b y => boEq x y
  | .i k n, .i k' n' => kEq k k' && iEq n n'
  | .sb c, .sb c' => SB.beq c c'
  | .si k e, .si k' e' => kEq k k' && SE.beq e e'
  | .ptr a o, .ptr b o' => pEq a b && Nat.beq o o'
  | .nil, .nil => true
  | .sl a o n c, .sl a' o' n' c' => pEq a a' && Nat.beq o o' && Nat.beq n n' && Nat.beq c c'
  | .vec a n, .vec a' n' => pEq a a' && Nat.beq n n'
  | .snil, .snil => true
  | .fn F p c, .fn F' p' c' => Nat.beq F F' && vlBeq p p' && vlBeq c c'
  | .fnil, .fnil => true
  | .agg l, .agg l' => vlBeq l l'
  | .tup l, .tup l' => vlBeq l l'
  | _, _ => false
def vlBeq : List V → List V → Bool
  | [], [] => true
  | x :: r, y :: s => V.beq x y && vlBeq r s
  | _, _ => false
end
mutual
theorem V.beq_ok : ∀ {x y : V}, V.beq x y = true → x = y
  | .b x, y, h => by cases y <;> simp only [V.beq] at h <;> first | (simp at h; done) | rw [boEq_ok h]
  | .i k n, y, h => by
    cases y <;> simp only [V.beq, Bool.and_eq_true] at h <;> first | (simp at h; done) | (rw [kEq_eq h.1]; have := h.2; rw [iEq_eq] at this; rw [of_decide_eq_true this])
  | .sb c, y, h => by cases y <;> simp only [V.beq] at h <;> first | (simp at h; done) | rw [SB.beq_eq h]
  | .si k e, y, h => by cases y <;> simp only [V.beq, Bool.and_eq_true] at h <;> first | (simp at h; done) | rw [kEq_eq h.1, SE.beq_eq h.2]
  | .ptr a o, y, h => by cases y <;> simp only [V.beq, Bool.and_eq_true, Nat.beq_eq] at h <;> first | (simp at h; done) | rw [pEq_ok h.1, h.2]
  | .nil, y, h => by cases y <;> simp only [V.beq] at h <;> first | (simp at h; done) | rfl
  | .sl a o n c, y, h => by cases y <;> simp only [V.beq, Bool.and_eq_true, Nat.beq_eq] at h <;> first | (simp at h; done) | rw [pEq_ok h.1.1.1, h.1.1.2, h.1.2, h.2]
  | .vec a n, y, h => by cases y <;> simp only [V.beq, Bool.and_eq_true, Nat.beq_eq] at h <;> first | (simp at h; done) | rw [pEq_ok h.1, h.2]
  | .snil, y, h => by cases y <;> simp only [V.beq] at h <;> first | (simp at h; done) | rfl
  | .fn F p c, y, h => by cases y <;> simp only [V.beq, Bool.and_eq_true, Nat.beq_eq] at h <;> first | (simp at h; done) | rw [h.1.1, vlBeq_ok h.1.2, vlBeq_ok h.2]
  | .fnil, y, h => by cases y <;> simp only [V.beq] at h <;> first | (simp at h; done) | rfl
  | .agg l, y, h => by cases y <;> simp only [V.beq] at h <;> first | (simp at h; done) | rw [vlBeq_ok h]
  | .tup l, y, h => by cases y <;> simp only [V.beq] at h <;> first | (simp at h; done) | rw [vlBeq_ok h]
theorem vlBeq_ok : ∀ {x y : List V}, vlBeq x y = true → x = y
  | [], y, h => by cases y <;> simp only [vlBeq] at h <;> first | (simp at h; done) | rfl
  | a :: r, y, h => by cases y <;> simp only [vlBeq, Bool.and_eq_true] at h <;> first | (simp at h; done) | rw [V.beq_ok h.1, vlBeq_ok h.2]
end
def trBeq : Tr V → Tr V → Bool
  | .nil, .nil => true
  | .leaf a, .leaf b => V.beq a b
  | .node l r, .node l' r' => trBeq l l' && trBeq r r'
  | _, _ => false
theorem trBeq_ok : ∀ {x y : Tr V}, trBeq x y = true → x = y
  | .nil, y, h => by cases y <;> simp only [trBeq] at h <;> first | (simp at h; done) | rfl
  | .leaf a, y, h => by cases y <;> simp only [trBeq] at h <;> first | (simp at h; done) | rw [V.beq_ok h]
  | .node l r, y, h => by cases y <;> simp only [trBeq, Bool.and_eq_true] at h <;> first | (simp at h; done) | rw [trBeq_ok h.1, trBeq_ok h.2]
def O.beq : O → O → Bool
  | .cells t l, .cells t' l' => Nat.beq t t' && vlBeq l l'
  | .arr t n d z tr, .arr t' n' d' z' tr' => Nat.beq t t' && Nat.beq n n' && Nat.beq d d' && V.beq z z' && trBeq tr tr'
  | .vec t e n l, .vec t' e' n' l' => Nat.beq t t' && Nat.beq e e' && Nat.beq n n' && vlBeq l l'
  | .varr t n d z tr, .varr t' n' d' z' tr' => Nat.beq t t' && Nat.beq n n' && Nat.beq d d' && V.beq z z' && trBeq tr tr'
  | .dead, .dead => true
  | _, _ => false
theorem O.beq_ok : ∀ {x y : O}, O.beq x y = true → x = y := by
  intro x y h
  cases x <;> cases y <;> simp only [O.beq, Bool.and_eq_true, Nat.beq_eq] at h <;> first
    | (simp at h; done)
    | rfl
    | rw [h.1, vlBeq_ok h.2]
    | rw [h.1.1.1.1, h.1.1.1.2, h.1.1.2, V.beq_ok h.1.2, trBeq_ok h.2]
    | rw [h.1.1.1, h.1.1.2, h.1.2, vlBeq_ok h.2]
def ooBeq : Option O → Option O → Bool
  | none, none => true
  | some a, some b => O.beq a b
  | _, _ => false
theorem ooBeq_ok {x y : Option O} (h : ooBeq x y = true) : x = y := by
  cases x <;> cases y <;> simp only [ooBeq] at h <;> first | (simp at h; done) | rfl | rw [O.beq_ok h]
def ptBeq : PT O → PT O → Bool
  | .e, .e => true
  | .n v l r, .n v' l' r' => ooBeq v v' && ptBeq l l' && ptBeq r r'
  | _, _ => false
theorem ptBeq_ok : ∀ {x y : PT O}, ptBeq x y = true → x = y
  | .e, y, h => by cases y <;> simp only [ptBeq] at h <;> first | (simp at h; done) | rfl
  | .n v l r, y, h => by cases y <;> simp only [ptBeq, Bool.and_eq_true] at h <;> first | (simp at h; done) | rw [ooBeq_ok h.1.1, ptBeq_ok h.1.2, ptBeq_ok h.2]
def H.beq (a b : H) : Bool := hc a (fun n lo t => hc b (fun n' lo' t' => pEq n n' && pEq lo lo' && ptBeq t t'))
theorem H.beq_ok {a b : H} (h : H.beq a b = true) : a = b := by
  cases a; cases b
  simp only [H.beq, hc_eq, Bool.and_eq_true] at h
  rw [pEq_ok h.1.1, pEq_ok h.1.2, ptBeq_ok h.2]
/-- a call whose end is known -/
structure Memo where
  F : Nat
  l : List V
  h : H
  v : V
  h' : H
def memo (m : Memo) (inner : CallT) : CallT := fun F l h fa k => bc (Nat.beq F m.F) (bc (vlBeq l m.l) (bc (H.beq h m.h) (k m.v m.h' fa) (inner F l h fa k)) (inner F l h fa k)) (inner F l h fa k)
theorem memo_ok {m : Memo} {inner inner0 : CallT} (h1 : CallOk E P inner) (h0 : CallOk E P inner0) (hm : ∀ fa k, inner0 m.F m.l m.h fa k = k m.v m.h' fa) : CallOk E P (memo m inner) := by
  intro F l h fa k hk hfa
  unfold memo at hk
  cases e1 : Nat.beq F m.F with
  | false => rw [e1] at hk; exact h1 F l h fa k hk hfa
  | true =>
    rw [e1] at hk
    have hk : bc (vlBeq l m.l) (bc (H.beq h m.h) (k m.v m.h' fa) (inner F l h fa k)) (inner F l h fa k) = 0 := hk
    cases e2 : vlBeq l m.l with
    | false => rw [e2] at hk; exact h1 F l h fa k hk hfa
    | true =>
      rw [e2] at hk
      have hk : bc (H.beq h m.h) (k m.v m.h' fa) (inner F l h fa k) = 0 := hk
      cases e3 : H.beq h m.h with
      | false => rw [e3] at hk; exact h1 F l h fa k hk hfa
      | true =>
        rw [e3] at hk
        have hk : k m.v m.h' fa = 0 := hk
        have e1 : F = m.F := by simpa using e1
        have e2 := vlBeq_ok e2
        have e3 := H.beq_ok e3
        subst e1; subst e2; subst e3
        exact h0 _ _ _ fa k (by rw [hm]; exact hk) hfa
end Go.Ev
end
