/-
  Types as the evaluator knows them; the model's code made ready for it. Definitions alone.
-/
import Derived.Test.YtapeacnagpphjaaGreatEvA
set_option linter.unusedSimpArgs false
set_option linter.unusedVariables false
noncomputable section
namespace Go.Ev
open Go

inductive SK where
  | bool | int (k : IntKind) | ptr | func | other
inductive TI where
  | scal (z : V) (k : SK)
  | slc (elem esz by_ : Nat) (z : List V)
  | str (fs : List (Nat × Nat × Bool)) (z : List V)
  | arr (len elem esz : Nat) (eagg : Bool) (z : List V)
  | none
def TI.zero : TI → Option (List V)
  | .scal z _ => some [z]
  | .slc .. => some [.snil]
  | .str _ z => some z
  | .arr _ _ _ _ z => some z
  | .none => Option.none
def isAggD : TypeDesc → Bool
  | .struct _ | .array _ _ => true
  | _ => false
def zeroOf (P : Program) (t : Nat) : Option V := match P.info? t with
  | some i => match i.zero with
    | some v => ofV v
    | none => none
  | none => none
def sizeP (P : Program) (t : Nat) : Nat := match P.info? t with
  | some i => i.size
  | none => 0
def bytesP (P : Program) (t : Nat) : Nat := match P.info? t with
  | some i => i.bytes
  | none => 0
def aggP (P : Program) (t : Nat) : Bool := match P.underlying t with
  | some d => isAggD d
  | none => false
/-- known: there is such a type -/
def isTy (P : Program) (t : Nat) : Bool := (P.info? t).isSome && (P.underlying t).isSome
def fieldsOf (P : Program) : List Field → List (Nat × Nat × Bool)
  | [] => []
  | f :: r => (f.offset, sizeP P f.type, aggP P f.type) :: fieldsOf P r
def scalOf (d : TypeDesc) : SK := match d with
  | .bool => .bool
  | .int k => .int k
  | .pointer _ => .ptr
  | .func .. => .func
  | _ => .other
def tiD (P : Program) (t : Nat) (d : TypeDesc) (z : V) : TI :=
  match d with
  | .slice e => match zeroOf P e, z with
    | some ez, .snil => if Nat.beq (len ez.cells) (sizeP P e) && isTy P e && Nat.beq (sizeP P t) 1 && allB V.one ez.cells then .slc e (sizeP P e) (bytesP P e) ez.cells else .none
    | _, _ => .none
  | .struct fl => if Nat.beq (len z.cells) (sizeP P t) && allB (fun f => isTy P f.type) fl.toList && allB V.one z.cells && isTy P t then .str (fieldsOf P fl.toList) z.cells else .none
  | .array n e => if Nat.beq (len z.cells) (sizeP P t) && isTy P e && allB V.one z.cells && isTy P t then .arr n e (sizeP P e) (aggP P e) z.cells else .none
  | d => if Nat.beq (sizeP P t) 1 && z.one && !isAggD d && Nat.ble (bytesP P t) 16 then .scal z (scalOf d) else .none
def tiOf (P : Program) (t : Nat) : TI :=
  match P.underlying t, zeroOf P t with
  | some d, some z => tiD P t d z
  | _, _ => .none
def rep {α : Type} : Nat → List α → List α
  | 0, _ => []
  | n + 1, l => l ++ rep n l
mutual
/-- by what cells two values are compared -/
def eqOf (P : Program) : Nat → TypeId → Option (List EK)
  | 0, _ => none
  | d + 1, t => match P.underlying t with
    | some .bool => some [.bool]
    | some (.int k) => some [.int k]
    | some (.struct fl) => if P.stoodInHeld t then none else eqFs P d 0 fl.toList
    | some (.array n e) => match eqOf P d e with
      | some l => if Nat.beq (len l) (sizeP P e) && isTy P e then some (rep n l) else none
      | none => none
    | _ => none
def eqFs (P : Program) : Nat → Nat → List Field → Option (List EK)
  | 0, _, _ => none
  | _ + 1, _, [] => some []
  | d + 1, off, f :: r => if f.name ≠ "_" && Nat.beq f.offset off then match eqOf P d f.type with
      | some l => if Nat.beq (len l) (sizeP P f.type) && isTy P f.type then match eqFs P d (off + len l) r with
          | some m => some (l ++ m)
          | none => none
        else none
      | none => none
    else none
end
structure Ty where
  ti : Nat → TI
  eq : Nat → Option (List EK)
def eqT (P : Program) (t : Nat) : Option (List EK) := if P.eqGuardType P.depth t || !aggP P t then none else eqOf P 40 t
def tyOf (P : Program) : Ty := ⟨tiOf P, eqT P⟩

def cOd : Operand → Option Od
  | .tmp t => some (.s (keyOf t))
  | .const v => match ofV v with
    | some v => some (.c v)
    | none => none
  | .global _ => none
  | .func f => some (.c (.fn f [] []))
def cOds : List Operand → Option (List Od)
  | [] => some []
  | x :: r => match cOd x, cOds r with
    | some a, some b => some (a :: b)
    | _, _ => none
def cOdO : Option Operand → Option (Option Od)
  | none => some none
  | some x => match cOd x with
    | some x => some (some x)
    | none => none
def cParts (fs : List (Nat × Nat × Bool)) : List (Nat × Operand) → Option (List (Nat × Nat × Od))
  | [] => some []
  | (i, x) :: r => match nth fs i, cOd x, cParts fs r with
    | some (off, sz, _), some x, some r => some ((off, sz, x) :: r)
    | _, _, _ => none
def cElems (esz : Nat) : List (Nat × Operand) → Option (List (Nat × Nat × Od))
  | [] => some []
  | (i, x) :: r => match cOd x, cElems esz r with
    | some x, some r => some ((i * esz, esz, x) :: r)
    | _, _ => none
def qkOf (Y : Ty) (t : Nat) : Option QK := match Y.ti t with
  | .scal _ (.int _) => some .num
  | .scal _ .bool => some .bool
  | .scal _ .ptr => some .ptr
  | .scal _ .func => some .func
  | .slc .. => some .slc
  | .str .. | .arr .. => match Y.eq t with
    | some l => some (.agg l)
    | none => none
  | _ => none
def is1 : TI → Bool
  | .scal .. | .slc .. => true
  | _ => false
def map1 (f : Od → IOp) (x : Operand) : Option IOp := match cOd x with
  | some x => some (f x)
  | none => none
def map2 (f : Od → Od → IOp) (x y : Operand) : Option IOp := match cOd x, cOd y with
  | some x, some y => some (f x y)
  | _, _ => none
def cOp (Y : Ty) (o : Op) : Option IOp :=
  match o with
  | .move x | .assign x => map1 .mov x
  | .pick c a b => match cOd c, cOd a, cOd b with
    | some c, some a, some b => some (.pick c a b)
    | _, _, _ => none
  | .alloc t => match (Y.ti t).zero with
    | some z => some (.new t z)
    | none => none
  | .box t x => map1 (.box t) x
  | .build t ps => match Y.ti t with
    | .str fs z => match cParts fs ps.toList with
      | some l => some (.agg z l)
      | none => none
    | .arr _ _ esz _ z => match cElems esz ps.toList with
      | some l => some (.agg z l)
      | none => none
    | _ => none
  | .buildSlice t n ps => match Y.ti t with
    | .slc e esz _ z => if Nat.ble (n * esz) 16777216 && Nat.ble 1 (n * esz) then match cElems esz ps.toList with
        | some l => some (.bsl e n (repA n z) l)
        | none => none
      else none
    | _ => none
  | .load t a => match Y.ti t with
    | .str _ z | .arr _ _ _ _ z => map1 (.ldn (len z)) a
    | .scal .. | .slc .. => map1 .ld a
    | .none => none
  | .store t a x => match (Y.ti t).zero with
    | some z => map2 (.st (len z)) a x
    | none => none
  | .nilCheck x => map1 .nilc x
  | .binOp op t x y _ => match qkOf Y t with
    | some q => map2 (.bin op q) x y
    | none => none
  | .unOp op _ x => match op with
    | .not => map1 .not x
    | .neg => map1 .neg x
    | _ => none
  | .convert s d x => match Y.ti s, Y.ti d with
    | .scal _ (.int _), .scal _ (.int k) => map1 (.cv k) x
    | _, _ => none
  | .makeFunc fn first caps => match fn, cOds first.toList, cOds caps.toList with
    | .func f, some p, some l => some (.mkf f p l)
    | _, _, _ => none
  | .fieldAddr t x f => match Y.ti t with
    | .str fs _ => match nth fs f with
      | some (o, sz, _) => if Nat.beq sz 0 then none else map1 (.fad o) x
      | none => none
    | _ => none
  | .field t x f => match Y.ti t with
    | .str fs _ => match nth fs f with
      | some (o, sz, g) => map1 (.fld o sz g) x
      | none => none
    | _ => none
  | .indexAddr t x i => match Y.ti t with
    | .arr n _ esz _ _ => map2 (.ixa n esz) x i
    | .slc _ esz _ _ => map2 (.ixs esz) x i
    | _ => none
  | .index t x i => match Y.ti t with
    | .arr n _ esz g _ => map2 (.ix n esz g) x i
    | _ => none
  | .extract x i => match cOd x with
    | some x => some (.ext x i)
    | none => none
  | .makeSlice t l c => match Y.ti t with
    | .slc e esz by_ [z] => map2 (.msl e z esz by_) l c
    | _ => none
  | .slice t x lo hi mx => match cOd x, cOdO lo, cOdO hi, cOdO mx with
    | some x, some lo, some hi, some mx => match Y.ti t with
      | .slc _ esz _ _ => some (.slc esz x lo hi mx)
      | .arr n _ esz _ _ => some (.sla n esz x lo hi mx)
      | _ => none
    | _, _, _, _ => none
  | .call c => match c.callee with
    | .value f => none
    | .builtin b => match b, c.argTypes.toList, c.args.toList with
      | .len, [t], [x] => match Y.ti t with
        | .slc .. => map1 .lens x
        | .arr n _ _ _ _ => some (.mov (.c (.i .i64 n)))
        | _ => none
      | .max, _, [x, y] => map2 (.mmx true) x y
      | .min, _, [x, y] => map2 (.mmx false) x y
      | .append, [t, t'], [x, y] => match Y.ti t with
        | .slc e esz by_ _ => if Nat.beq t t' then map2 (.app e esz by_) x y else none
        | _ => none
      | .copy, [t, t'], [x, y] => match Y.ti t, Y.ti t' with
        | .slc _ esz _ _, .slc _ esz' _ _ => if Nat.beq esz esz' then map2 (.cpy esz) x y else none
        | _, _ => none
      | _, _, _ => none
    | _ => none
  | _ => none
def dstOf (all : List Oper) (j : Nat) : Option Nat := match nth all j with
  | some o => o.dst
  | none => none
def cDst (N : Nat) : Option Nat → Option (Option Ky)
  | none => some none
  | some t => if Nat.blt t N then some (some (keyOf t)) else none
def cGuard (all : List Oper) : Option (Nat × Bool) → Option (Option (Ky × Bool))
  | none => some none
  | some (j, want) => match dstOf all j with
    | some t => some (some (keyOf t, want))
    | none => none
def cOper (Y : Ty) (N : Nat) (all : List Oper) (o : Oper) : Option OI :=
  match cDst N o.dst, cGuard all o.guard with
  | some d, some g => match cOp Y o.op with
    | some i => some (.op d g i)
    | none => match o.op with
      | .call c => match c.callee with
        | .value f => match cOd f, cOds c.args.toList with
          | some f, some l => some (.call d g f l)
          | _, _ => none
        | _ => none
      | _ => none
  | _, _ => none
def cOpers (Y : Ty) (N : Nat) (all : List Oper) : List Oper → Option (List OI)
  | [] => some []
  | o :: r => match cOper Y N all o, cOpers Y N all r with
    | some a, some b => some (a :: b)
    | _, _ => none
def pickA {α : Type} (l : List α) : List Nat → List α
  | [] => []
  | i :: r => match nth l i with
    | some x => x :: pickA l r
    | none => pickA l r
/-- how a region that draws its order is done: quiet ones, then a chain; or quiet ones ahead of the others, which make things or write what nobody looks at -/
inductive Dr where
  | tail (n : Nat) (tl : List Nat)
  | held (bs : List Nat) (ord : List (Bool × Nat))
  | mix (n : Nat) (bs : List Nat) (ord : List (Bool × Nat))
def cHeld (Y : Ty) (N : Nat) (all : List Oper) : List (Bool × Nat) → Option (List (Bool × OI))
  | [] => some []
  | (q, i) :: r => match nth all i, cHeld Y N all r with
    | some o, some r => match cOper Y N all o with
      | some x => some ((q, x) :: r)
      | none => none
    | _, _ => none
def cCode (Y : Ty) (N : Nat) (dr : Nat → Option Dr) : Code → IC
  | .skip => .skip
  | .ret => .ret
  | .exit i => .exit i
  | .seq a b => .seq (cCode Y N dr a) (cCode Y N dr b)
  | .cond (.tmp t) a b => .cond (keyOf t) (cCode Y N dr a) (cCode Y N dr b)
  | .block i a => .block i (cCode Y N dr a)
  | .loop a => .loop (cCode Y N dr a)
  | .scope a => cCode Y N dr a
  | .label _ => .skip
  | .region _ ops false => match cOpers Y N ops.toList ops.toList with
    | some l => .ops l
    | none => .bad
  | .region id ops true => match dr id with
    | some (.held bs ord) => match cHeld Y N ops.toList ord with
      | some l => .hops (bs.map keyOf) l
      | none => .bad
    | some (.mix n bs ord) => match cOpers Y N ops.toList (ops.toList.take n), cHeld Y N ops.toList ord with
      | some hd, some l => .seq (.qops hd) (.hops (bs.map keyOf) l)
      | _, _ => .bad
    | some (.tail d tl) => match cOpers Y N ops.toList (ops.toList.take d) with
      | some hd => match tl, nth ops.toList d with
        | [], some o => match cOper Y N ops.toList o, cOpers Y N ops.toList (ops.toList.drop (d + 1)) with
          | some i, some r => .seq (.qops hd) (.seq (.ops [i]) (.qops r))
          | _, _ => .bad
        | _, _ => match cOpers Y N ops.toList (pickA ops.toList tl) with
          | some t => .seq (.qops hd) (.ops t)
          | none => .bad
      | none => .bad
    | none => .bad
  | _ => .bad
def cRes (Y : Ty) : List ResultVar → Option (List IR)
  | [] => some []
  | r :: rs => match cRes Y rs with
    | some l => match r with
      | .tmp t => some (.tmp (keyOf t) :: l)
      | .cell a t => match Y.ti t with
        | .scal .. | .slc .. => some (.c1 (keyOf a) :: l)
        | .str _ z | .arr _ _ _ _ z => some (.cn (len z) (keyOf a) :: l)
        | .none => none
    | none => none
def cFn (Y : Ty) (dr : Nat → Option Dr) (f : Func) : Option IFn :=
  match f.body, cRes Y f.results.toList with
  | some c, some rs => some ⟨cCode Y f.ntmps dr c, rs⟩
  | _, _ => none
end Go.Ev
end
