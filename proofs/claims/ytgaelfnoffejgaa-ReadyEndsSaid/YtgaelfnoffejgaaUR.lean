/-
 ReadyEnds: runs of pushing and dropping, of any words.
-/
import Derived.Test.YtgaelfnoffejgaaUT
import Derived.Test.YtgaelfnoffejgaaEvCz
set_option linter.unusedSimpArgs false
set_option linter.unusedVariables false
set_option maxRecDepth 100000
noncomputable section
namespace Go.Ev.X
open Go Go.Ev Go.Proofs
def tfs (a : SE) (o : Nat) : List (SB × Bool) := (.cmp .neq a (.lit 0), !Nat.beq o 0) :: (match o with
 | 1 => [(.cmp .geq a (.lit 1024), false)]
 | 2 => [(.cmp .geq a (.lit 1024), true), (.cmp .eql (.op .rem .i64 a (.lit 64)) (.lit 0), false)]
 | 3 => [(.cmp .geq a (.lit 1024), true), (.cmp .eql (.op .rem .i64 a (.lit 64)) (.lit 0), true), (.cmp .leq a (.lit 1984), false)]
 | _ => [])
def tdS (a : SE) (b : Nat) : Sh := ⟨13, [.si .i64 a], .tup [tD b, .i .i64 0]⟩
def twS (a : SE) : Sh := ⟨13, [.si .i64 a], .tup [zW, .i .i64 90]⟩
def tN (b : Nat) (q pv nx : V) : V := tA b (sv b) (sv (b + 1)) (sv (b + 2)) q pv nx (sv (b + 6)) (sv (b + 7)) (tv (b + 8)) (tv (b + 9)) (sv (b + 10)) (sv (b + 11)) (sv (b + 12)) (sv (b + 13))
def stS' (a : SE) (t : V) : Sh := ⟨28, [.si .i64 a, t], .i .i64 0⟩
def tsh (a : SE) (b : Nat) (nx : Bool) (x : SE) (o : Nat) : List Sh := match o with
 | 4 => [twS a]
 | 5 => [tdS a b, stS' a (bif nx then tN b (tv (b + 3)) (sv (b + 4)) (.si .i64 x) else tN b (tv (b + 3)) (.si .i64 x) (sv (b + 5)))]
 | _ => []
def enS : Sh := ⟨32, [.si .i64 (.v 101)], .tup [.si .i64 (.v 200), .si .i64 (.v 201)]⟩
def seS (h l : SE) : Sh := ⟨36, [.si .i64 (.v 101), .si .i64 h, .si .i64 l], .tup []⟩
def t1 : SE := .v 1
def fq (q : Bool) : SB × Bool := (.cmp .eql (.v 103) (.lit 1), q)
def fpv (b : Bool) : SB × Bool := (.cmp .neq (.v 104) (.lit 0), b)
def fnx (b : Bool) : SB × Bool := (.cmp .neq (.v 105) (.lit 0), b)
def runU (F : Nat) (sh : List Sh) (fs : List (SB × Bool)) (n : Int) : Nat := runCh cx0 cP sh [] F [.si .i64 t1] fs (.i .i64 n)
def fnU (fr : Bool) : Nat := bif fr then 21 else 11
def fsF (j : Nat) : List (SB × Bool) := match j with
 | 0 => []
 | 1 => [fq true]
 | 2 => [fq false, fpv true]
 | _ => [fq false, fpv false, fnx true]
def refU (fr : Bool) (j : Nat) : Nat := runU (fnU fr) (bif Nat.beq j 0 then [twS t1] else [tdS t1 100]) (fsF j) (bif Nat.beq j 0 then 90 else 120)
def shE (fr : Bool) : List Sh := [tdS t1 100, enS, stS' t1 (bif fr then tN 100 (.b true) (sv 104) (.i .i64 0) else tN 100 (.b true) (.i .i64 0) (sv 105)), seS t1 t1]
def fsEm : List (SB × Bool) := [fq false, fpv false, fnx false, (.cmp .neq (.v 200) (.lit 0), false)]
def empU (fr : Bool) : Nat := runU (fnU fr) (shE fr) fsEm 0
def nbr (fr : Bool) : SE := bif fr then .v 200 else .v 201
def shM (fr : Bool) (o : Nat) : List Sh := tdS t1 100 :: enS :: stS' t1 (bif fr then tN 100 (.b true) (sv 104) (sv 200) else tN 100 (.b true) (sv 201) (sv 105)) :: (tsh (nbr fr) 400 (!fr) t1 o ++ [bif fr then seS t1 (.v 201) else seS (.v 200) t1])
def fsM (fr : Bool) (o : Nat) : List (SB × Bool) := fq false :: fpv false :: fnx false :: (.cmp .neq (.v 200) (.lit 0), true) :: (.cmp .eql (.v 200) (.lit 0), false) :: tfs (nbr fr) o
def pushU (fr : Bool) (o : Nat) : Nat := runU (fnU fr) (shM fr o) (fsM fr o) 0
def shD (h l : Bool) (a b : Nat) : List Sh := tdS t1 100 :: enS :: (tsh (.v 104) 400 true (.v 105) a ++ (tsh (.v 105) 600 false (.v 104) b ++ [stS' t1 (tN 100 (.b false) (.i .i64 0) (.i .i64 0)), seS (bif h then .v 105 else .v 200) (bif l then .v 104 else .v 201)]))
def fsD' (h l : Bool) (a b : Nat) : List (SB × Bool) := fq true :: (.cmp .eql (.v 200) t1, h) :: (.cmp .eql (.v 201) t1, l) :: (tfs (.v 104) a ++ tfs (.v 105) b)
def dropU (h l : Bool) (a b : Nat) : Nat := runU 12 (shD h l a b) (fsD' h l a b) 0
def notU (j : Nat) : Nat := runU 12 (bif Nat.beq j 0 then [twS t1] else [tdS t1 100]) (bif Nat.beq j 0 then [] else [fq false]) (bif Nat.beq j 0 then 90 else 121)
theorem refU_ok : allB (fun fr => allB (fun j => Nat.beq (refU fr j) 0) (rng 4) && Nat.beq (empU fr) 0) bools = true := by decide +kernel
theorem pushU_ok : allB (fun fr => allB (fun o => Nat.beq (pushU fr o) 0) (rngF 1 5)) bools = true ∧ pushU false 0 = 0 := by decide +kernel
theorem notU_ok : notU 0 = 0 ∧ notU 1 = 0 := by decide +kernel
end Go.Ev.X
end
