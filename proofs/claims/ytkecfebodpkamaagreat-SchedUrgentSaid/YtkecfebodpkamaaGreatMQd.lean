/-
  Tables of the contracts of a queue's ends and bits.
-/
import Derived.Test.YtkecfebodpkamaaGreatMB
set_option linter.unusedSimpArgs false
set_option linter.unusedVariables false
set_option maxRecDepth 100000
noncomputable section
namespace Go.Ev.X
open Go Go.Ev Go.Proofs
variable {E : Env} {f : Nat → Int}
def s1 : SE := .op .add .i64 (.v 5) (.v 9000)
def s2 : SE := .op .add .i64 s1 (.v 9001)
def s3 : SE := .op .add .i64 s2 (.v 9002)
def s4 : SE := .op .add .i64 s3 (.v 9003)
def s5 : SE := .op .add .i64 s4 (.v 9004)
def rdV (b : Nat) : V := .tup [.si .u64 (.v b), .i .i64 0]
def endsEs (c : Nat) (p : Nat) : List Ent := [⟨c, [.i .i64 (.ofNat (256 + p))], 1, rdV 100, .v 9000⟩]
def endsVp : V := .tup [.si .i64 (.cv .i64 (.op .and .u64 (.v 100) (.lit 65535))), .si .i64 (.cv .i64 (.op .and .u64 (.op .shr .u64 (.v 100) (.lit 16)) (.lit 65535)))]
def endsVr : V := .tup [.si .i64 (.cv .i64 (.op .rem .u64 (.v 100) (.lit 65536))), .si .i64 (.cv .i64 (.op .rem .u64 (.op .shr .u64 (.v 100) (.lit 16)) (.lit 65536)))]
def bitE (k : Nat) (on : Bool) (e : SE) : SE := match on with
  | true => .op .or .u64 (.op .andNot .u64 e (.lit (.ofNat (2 ^ k)))) (.lit (.ofNat (2 ^ k)))
  | false => .op .andNot .u64 e (.lit (.ofNat (2 ^ k)))
def markEs (k : Nat) (on : Bool) : List Ent := [⟨44, [.si .i64 (.v 1)], 1, rdV 100, .v 9000⟩, ⟨87, [.si .i64 (.v 1), .si .u64 (bitE k on (.v 100))], 2, .i .i64 0, .v 9001⟩]
def endE : SE := .op .or .u64 (.op .shl .u64 (.cv .u64 (.v 3)) (.lit 16)) (.cv .u64 (.v 2))
def setEs (p : Nat) : List Ent := [⟨87, [.i .i64 (.ofNat (256 + p)), .si .u64 endE], 1, .i .i64 0, .v 9000⟩,
  ⟨88, [.i .i64 (.ofNat (8 + p / 64)), .i .i64 (.ofNat (p % 64)), .sb (.cmp .neq (.v 2) (.lit 0))], 2, .si .u64 (.v 200), .v 9001⟩,
  ⟨88, [.i .i64 4, .i .i64 (.ofNat (p / 64)), .sb (.cmp .neq (.v 200) (.lit 0))], 3, .si .u64 (.v 300), .v 9002⟩]
def setErs (p : Nat) (a b : Bool) : List Ent := [⟨103, [.i .i64 (.ofNat (256 + p)), .si .u64 (.op .add .u64 (.cv .u64 (.v 2)) (.op .shl .u64 (.cv .u64 (.v 3)) (.lit 16)))], 1, .i .i64 0, .v 9000⟩,
  ⟨115, [.i .i64 (.ofNat (8 + p / 64))], 2, rdV 200, .v 9001⟩, ⟨103, [.i .i64 (.ofNat (8 + p / 64)), .si .u64 (bitE (p % 64) a (.v 200))], 3, .i .i64 0, .v 9002⟩,
  ⟨115, [.i .i64 4], 4, rdV 400, .v 9003⟩, ⟨103, [.i .i64 4, .si .u64 (bitE (p / 64) b (.v 400))], 5, .i .i64 0, .v 9004⟩]
end Go.Ev.X
end
