/-
 Tables of the contracts of a queue's ends and bits.
-/
import Derived.Test.YtgaelfnoffejgaaMB
set_option linter.unusedSimpArgs false
set_option linter.unusedVariables false
set_option maxRecDepth 100000
noncomputable section
namespace Go.Ev.X
open Go Go.Ev Go.Proofs
variable {E : Env} {f : Nat → Int}
def s1 : SE := .op .add .i64 (.v 5) (.v 9000)
def s2 : SE := .op .add .i64 s1 (.v 9001)
def s3 : SE := .op .add .i64 s2 (.v 9002)
def s4 : SE := .op .add .i64 s3 (.v 9003)
def s5 : SE := .op .add .i64 s4 (.v 9004)
def s6 : SE := .op .add .i64 s5 (.v 9005)
def s7 : SE := .op .add .i64 s6 (.v 9006)
def s8 : SE := .op .add .i64 s7 (.v 9007)
def ksL (l : List Nat) (j : Nat) : Int := (l.getD j 0 : Nat)
def rdV (b : Nat) : V := .tup [.si .u64 (.v b), .i .i64 0]
def endsEs (c : Nat) (p : Nat) : List Ent := [⟨c, [.i .i64 (.ofNat (256 + p))], 1, rdV 100, .v 9000⟩]
def endsVp : V := .tup [.si .i64 (.cv .i64 (.op .and .u64 (.v 100) (.lit 65535))), .si .i64 (.cv .i64 (.op .and .u64 (.op .shr .u64 (.v 100) (.lit 16)) (.lit 65535)))]
def bitE (k : Nat) (on : Bool) (e : SE) : SE := match on with
 | true => .op .or .u64 (.op .andNot .u64 e (.lit (.ofNat (2 ^ k)))) (.lit (.ofNat (2 ^ k)))
 | false => .op .andNot .u64 e (.lit (.ofNat (2 ^ k)))
def markEs (k : Nat) (on : Bool) : List Ent := [⟨38, [.si .i64 (.v 1)], 1, rdV 100, .v 9000⟩, ⟨53, [.si .i64 (.v 1), .si .u64 (bitE k on (.v 100))], 2, .i .i64 0, .v 9001⟩]
def endE : SE := .op .or .u64 (.op .shl .u64 (.cv .u64 (.v 3)) (.lit 16)) (.cv .u64 (.v 2))
def setEs (p : Nat) : List Ent := [⟨53, [.i .i64 (.ofNat (256 + p)), .si .u64 endE], 1, .i .i64 0, .v 9000⟩,
 ⟨60, [.i .i64 (.ofNat (8 + p / 64)), .i .i64 (.ofNat (p % 64)), .sb (.cmp .neq (.v 2) (.lit 0))], 2, .si .u64 (.v 200), .v 9001⟩,
 ⟨60, [.i .i64 4, .i .i64 (.ofNat (p / 64)), .sb (.cmp .neq (.v 200) (.lit 0))], 3, .si .u64 (.v 300), .v 9002⟩]
end Go.Ev.X
end
/-
 Their runs, 0.
-/
set_option linter.unusedSimpArgs false
set_option linter.unusedVariables false
set_option maxRecDepth 100000
noncomputable section
namespace Go.Ev.X
open Go Go.Ev Go.Proofs
variable {E : Env} {f : Nat → Int}
theorem endsP_run : allB (fun p => Nat.beq (runX cx0 cP (endsEs 38 p) [] 32 [.i .i64 (.ofNat p)] ⟨[], []⟩ endsVp 1 s1) 0) (rng 256) = true := by decide +kernel
end Go.Ev.X
end
/-
 Their runs, 2.
-/
set_option linter.unusedSimpArgs false
set_option linter.unusedVariables false
set_option maxRecDepth 100000
noncomputable section
namespace Go.Ev.X
open Go Go.Ev Go.Proofs
variable {E : Env} {f : Nat → Int}
theorem mark_run : allB (fun k => allB (fun on => Nat.beq (runX cx0 cP (markEs k on) [] 60 [.si .i64 (.v 1), .i .i64 (.ofNat k), .b on] ⟨[], []⟩ (.si .u64 (bitE k on (.v 100))) 2 s2) 0) bools) (rng 64) = true := by decide +kernel
end Go.Ev.X
end
/-
 Their runs, 3.
-/
set_option linter.unusedSimpArgs false
set_option linter.unusedVariables false
set_option maxRecDepth 100000
noncomputable section
namespace Go.Ev.X
open Go Go.Ev Go.Proofs
variable {E : Env} {f : Nat → Int}
theorem set_run : allB (fun p => Nat.beq (runX cx0 cP (setEs p) [] 36 [.i .i64 (.ofNat p), .si .i64 (.v 2), .si .i64 (.v 3)] ⟨[], []⟩ (.tup []) 3 s3) 0) (rng 256) = true := by decide +kernel
end Go.Ev.X
end
