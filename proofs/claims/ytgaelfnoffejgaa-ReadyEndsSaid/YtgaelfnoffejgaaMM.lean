/-
 What both memories are in the beginning: the runs.
-/
import Derived.Test.YtgaelfnoffejgaaMBz
import Derived.Test.YtgaelfnoffejgaaEvCe
import Derived.Test.YtgaelfnoffejgaaE6
set_option linter.unusedSimpArgs false
set_option linter.unusedVariables false
set_option maxRecDepth 100000
noncomputable section
namespace Go.Ev.X
open Go Go.Ev Go.Proofs
def q1 : Ev.P := .h
def q2 : Ev.P := (.o .h)
def q3 : Ev.P := (.i .h)
def q4 : Ev.P := (.o (.o .h))
def q5 : Ev.P := (.i (.o .h))
def q6 : Ev.P := (.o (.i .h))
def q7 : Ev.P := (.i (.i .h))
def q8 : Ev.P := (.o (.o (.o .h)))
def tcM (i : Nat) : Nat := 1024 + 64 * i
def tM0 (p : V) : V := .agg [.i .i64 1, p, .i .i64 5, .b false, .i .i64 0, .i .i64 0, .i .i64 0, .i .i64 0, .b false, .b false, .i .i64 0, .i .i64 0, .i .i64 0, .i .i64 0, .i .u64 0, .i .u64 0, .i .u64 0, .i .u64 0, .i .u64 0, .i .u64 0, .i .u64 0, .i .u64 0, .i .u64 0, .i .u64 0, .i .u64 0, .i .u64 0, .i .u64 0, .i .u64 0, .i .u64 0, .i .u64 0]
def hasM (j : Nat) : Bool := Nat.beq (Nat.mod j 2) 1
def prV (j : Nat) : V := bif hasM j then .si .i64 (.v 4) else .i .i64 0
def a0 (b : Bool) : V := bif b then .snil else .fs q1 0
def o0 (b : Bool) (l : List V) : O := bif b then .dead else .row 0 1 (.v 1) (.v 2) l
def o1 (z : Nat) : O := match z with
 | 0 => .dead
 | z + 1 => .row 1 (z + 1) (.v 11) (.v 12) []
def a1 (z : Nat) : V := bif Nat.beq z 0 then .snil else .fs q2 1
def n3 (x : Bool) : Ev.P := bif x then q4 else q3
def n4 (x : Bool) : Ev.P := bif x then q5 else q4
def n5 (x : Bool) : Ev.P := bif x then q6 else q5
def n6 (x : Bool) : Ev.P := bif x then q7 else q6
def n7 (x : Bool) : Ev.P := bif x then q8 else q7
def bsM (x b : Bool) (z : Nat) (l : List V) : PT O := bif x then (((PT.e : PT O).set q1 (o0 b l)).set q2 (o1 z)).set q3 (.cells 51 [a0 b, a1 z, .si .i64 (.v 20), .sb (.v 0)]) else ((PT.e : PT O).set q1 (o0 b l)).set q2 (o1 z)
def hM (x b : Bool) (z j : Nat) : H := ⟨n7 x, n3 x, ((((bsM x b z (bif hasM j then [.si .i64 (.v 3)] else [])).set (n3 x) (.oa 33 100 2048 13 .nil)).set (n4 x) (.cells 98 [.sl (n3 x) 0 2048 2048, .si .i64 (.v 5)])).set (n5 x) (.oa 33 200 2048 13 .nil)).set (n6 x) (.cells 96 [.sl (n5 x) 0 2048 2048, .si .i64 (.v 6)])⟩
def esMp (j : Nat) : List Ent := [⟨28, [.i .i64 (.ofNat (tcM (Nat.div j 2))), tM0 (prV j)], 101, .i .i64 0, .v 310⟩]
def esMr (j : Nat) : List Ent := [⟨29, [.i .i64 (.ofNat (tcM (Nat.div j 2))), tM0 (prV j)], 201, .i .i64 0, .v 311⟩]
def psM (j : Nat) : List PEnt := ⟨10, [.si .i64 (.v 2)], .i .i64 (.ofNat (tcM (Nat.div j 2)))⟩ :: (bif hasM j then [⟨17, [.si .i64 (.v 3)], .si .i64 (.v 4)⟩] else [])
def fM (b : Bool) (j : Nat) : List (SB × Bool) := (.cmp .lss (.v 2) (.lit 8), true) :: (bif b then [(.cmp .lss (.v 2) (.lit 0), false)] else [(.cmp .lss (.v 2) (.v 1), hasM j)])
end Go.Ev.X
end
