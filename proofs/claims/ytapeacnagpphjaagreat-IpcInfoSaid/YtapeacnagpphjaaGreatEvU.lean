/-
  Ranges over a function: an iterator that calls yield, the rounds of a loop. Definitions.
-/
import Derived.Test.YtapeacnagpphjaaGreatEvS
set_option linter.unusedSimpArgs false
set_option linter.unusedVariables false
noncomputable section
namespace Go.Ev
open Go
def N16.no (a : N16) : Nat := N16.rec (motive := fun _ => Nat) 0 1 2 3 4 5 6 7 8 9 10 11 12 13 14 15 a
def kyEq (a b : Ky) : Bool := match a, b with
  | .k1 a, .k1 b => Nat.beq a.no b.no
  | .k2 a b, .k2 c d => bc (Nat.beq a.no c.no) (Nat.beq b.no d.no) false
  | .k3 a b c, .k3 d e f => bc (Nat.beq a.no d.no) (bc (Nat.beq b.no e.no) (Nat.beq c.no f.no) false) false
  | .kn a, .kn b => Nat.beq a b
  | _, _ => false
def memY : List Ky → Ky → Bool
  | [], _ => false
  | a :: r, t => bc (kyEq a t) true (memY r t)
inductive YO where
  | mv (d t : Ky) (x : OI) | cl (d t : Ky) (l : List Od) (x : OI) | o (x : OI)
inductive YC where
  | skip | ret | exit (i : Nat) | seq (a b : YC) | cond (t : Ky) (a b : YC) | block (i : Nat) (a : YC) | loop (a : YC) | ops (l : List YO) | rng (g : Od) (ps : List Ky) (a b : YC) | bad
abbrev Pd := Option AE
abbrev KY := AE → Fr → H → Fa → List Ky → Pd → Nat
abbrev KY1 := Fr → H → Fa → List Ky → Pd → Nat
abbrev Hand := List V → H → Fa → (Bool → H → Fa → Pd → Nat) → Nat
abbrev ItrT := Hand → List V → H → Fa → (H → Fa → Pd → Nat) → Nat
structure YX where
  call : CallT
  F : Nat
  fuel : Nat
  hand : Hand
  itr : Nat → Option ItrT
abbrev SY := YX → Fr → H → Fa → List Ky → Pd → KY → Nat
def YX.x (c : YX) : Ctx := ⟨c.call, c.F, c.fuel⟩
def noHand : Hand := fun _ _ _ _ => 1
def noItr : Nat → Option ItrT := fun _ => none
/-- where its value goes is not where yield is -/
def dstOk (ys : List Ky) (x : OI) : Bool := OI.go (fun d _ _ => oc d (fun d => bc (memY ys d) false true) true) (fun d _ _ _ => oc d (fun d => bc (memY ys d) false true) true) x
def stepP (x : OI) (c : YX) (fr : Fr) (h : H) (fa : Fa) (ys : List Ky) (pd : Pd) (k : KY1) : Nat :=
  bc (dstOk ys x) (OI.go stepOp stepCall x c.x fr h fa (fun fr h fa => k fr h fa ys pd)) 1
def isSo {α : Type} (x : Option α) : Bool := oc x (fun _ => true) false
def stepY (x : YO) (c : YX) (fr : Fr) (h : H) (fa : Fa) (ys : List Ky) (pd : Pd) (k : KY1) : Nat := match x with
  | .mv d t x => bc (memY ys t) (bc (isSo (fr.get d)) 1 (k fr h fa (d :: ys) pd)) (stepP x c fr h fa ys pd k)
  | .cl d t l x => bc (memY ys t) (bc (memY ys d) 1 (bc (isSo pd) 1 (oc (ods l fr) (fun l => c.hand l h fa (fun b h fa pd => setF d fr (.b b) (fun fr => k fr h fa ys pd))) 1))) (stepP x c fr h fa ys pd k)
  | .o x => stepP x c fr h fa ys pd k
def opsY : List YO → YX → Fr → H → Fa → List Ky → Pd → KY1 → Nat
  | [], _, fr, h, fa, ys, pd, k => k fr h fa ys pd
  | x :: r, c, fr, h, fa, ys, pd, k => stepY x c fr h fa ys pd (fun fr h fa ys pd => opsY r c fr h fa ys pd k)
def bindPs : List Ky → List V → Fr → (Fr → Nat) → Nat
  | [], [], fr, k => k fr
  | p :: ps, v :: vs, fr, k => setF p fr v (fun fr => bindPs ps vs fr k)
  | _, _, _, _ => 1
/-- what a round is answered, by the way in which it was left -/
def endR (e : AE) (h : H) (fa : Fa) (k : Bool → H → Fa → Pd → Nat) : Nat := aeGo e (k true h fa none) (k false h fa (some .ret)) (fun i => k false h fa (some (.exit i)))
def roundT (c : YX) (fr : Fr) (ps : List Ky) (ra rb : SY) : Hand := fun l h fa k =>
  bindPs ps l fr (fun fr => ra ⟨c.call, c.F, c.fuel, noHand, noItr⟩ fr h fa [] none (fun e fr h fa _ pd => bc (isSo pd) 1 (aeGo e
    (rb ⟨c.call, c.F, c.fuel, noHand, noItr⟩ fr h fa [] none (fun e fr h fa _ pd => bc (isSo pd) 1 (endR e h fa k))) 1 (fun _ => 1))))
def behindT (pd : Pd) (k : AE → Pd → Nat) : Nat := match pd with
  | none => k .normal (some .normal)
  | some e => k e (some .normal)
def nilL {α : Type} (l : List α) : Bool := lCase true (fun _ _ => false) l
def codeY : YC → SY
  | .skip => fun _ fr h fa ys pd k => k .normal fr h fa ys pd
  | .ret => fun _ fr h fa ys pd k => k .ret fr h fa ys pd
  | .exit i => fun _ fr h fa ys pd k => k (.exit i) fr h fa ys pd
  | .seq a b => fun c fr h fa ys pd k => codeY a c fr h fa ys pd (fun e fr h fa ys pd => aeGo e (codeY b c fr h fa ys pd k) (k .ret fr h fa ys pd) (fun i => k (.exit i) fr h fa ys pd))
  | .cond t a b => fun c fr h fa ys pd k => way fa (fr.get t) (fun x fa => bc x (codeY a c fr h fa ys pd k) (codeY b c fr h fa ys pd k)) 1
  | .block i a => fun c fr h fa ys pd k => codeY a c fr h fa ys pd (fun e fr h fa ys pd => aeGo e (k .normal fr h fa ys pd) (k .ret fr h fa ys pd) (fun j => bc (Nat.beq j i) (k .normal fr h fa ys pd) (k (.exit j) fr h fa ys pd)))
  | .loop a => fun c => Nat.rec (motive := fun _ => Fr → H → Fa → List Ky → Pd → KY → Nat) (fun _ _ _ _ _ _ => 1)
      (fun _ ih fr h fa ys pd k => codeY a c fr h fa ys pd (fun e fr h fa ys pd => aeGo e (ih fr h fa ys pd k) (k .ret fr h fa ys pd) (fun i => k (.exit i) fr h fa ys pd))) c.fuel
  | .ops l => fun c fr h fa ys pd k => opsY l c fr h fa ys pd (fun fr h fa ys pd => k .normal fr h fa ys pd)
  | .rng g ps a b => fun c fr h fa ys pd k => bc (isSo pd) 1 (vFn (od g fr) (fun G pre caps => bc (nilL pre) (oc (c.itr G) (fun it =>
      it (roundT c fr ps (codeY a) (codeY b)) caps h fa (fun h fa pd => behindT pd (fun e pd => k e fr h fa ys pd))) 1) 1) 1)
  | .bad => fun _ _ _ _ _ _ _ => 1
/-! the code made ready -/
def cOperY (Y : Ty) (N : Nat) (all : List Oper) (o : Oper) : Option YO := match cOper Y N all o with
  | none => none
  | some x => match o.guard, o.dst, o.op with
    | none, some d, .move (.tmp t) => some (.mv (keyOf d) (keyOf t) x)
    | none, some d, .assign (.tmp t) => some (.mv (keyOf d) (keyOf t) x)
    | none, some d, .call cl => match cl.callee, cOds cl.args.toList with
      | .value (.tmp t), some l => some (.cl (keyOf d) (keyOf t) l x)
      | _, _ => some (.o x)
    | _, _, _ => some (.o x)
def cOpersY (Y : Ty) (N : Nat) (all : List Oper) : List Oper → Option (List YO)
  | [] => some []
  | o :: r => match cOperY Y N all o, cOpersY Y N all r with
    | some a, some b => some (a :: b)
    | _, _ => none
def cCodeY (Y : Ty) (N : Nat) : Code → YC
  | .skip => .skip
  | .ret => .ret
  | .exit i => .exit i
  | .seq a b => .seq (cCodeY Y N a) (cCodeY Y N b)
  | .cond (.tmp t) a b => .cond (keyOf t) (cCodeY Y N a) (cCodeY Y N b)
  | .block i a => .block i (cCodeY Y N a)
  | .loop a => .loop (cCodeY Y N a)
  | .region _ ops false => match cOpersY Y N ops.toList ops.toList with
    | some l => .ops l
    | none => .bad
  | .rangeFunc g ps a b => match cOd g with
    | some g => if allB (fun p => Nat.blt p N) ps.toList then .rng g (ps.toList.map keyOf) (cCodeY Y N a) (cCodeY Y N b) else .bad
    | none => .bad
  | _ => .bad
/-- an iterator; a function that ranges -/
def itrT (yc : YC) (call : CallT) (F fuel : Nat) : ItrT := fun hand l h fa k => lRec initN initC l 1 .e (fun fr => codeY yc ⟨call, F, fuel, hand, noItr⟩ fr h fa [keyOf 0] none (fun e fr h fa _ pd => aeGo e (k h fa pd) (k h fa pd) (fun _ => 1)))
def rfnT (yc : YC) (rs : List IR) (call : CallT) (F fuel : Nat) (itr : Nat → Option ItrT) : List V → H → Fa → K → Nat := fun l h fa k =>
  initFr l (fun fr => codeY yc ⟨call, F, fuel, noHand, itr⟩ fr h fa [] none (fun e fr h fa _ _ => aeGo e (resT rs fr h (fun v => k v h fa) 1) (resT rs fr h (fun v => k v h fa) 1) (fun _ => 1)))
end Go.Ev
end
