/-
  What functions do to a memory, of words that are symbols.
-/
import Derived.Test.YtipodcoiioifkaaGreatSD0
set_option linter.unusedSimpArgs false
set_option linter.unusedVariables false
set_option maxRecDepth 100000
noncomputable section
namespace Go.Ev.X
open Go Go.Ev
def s8_1024 : List Sm := [⟨[(.one (.i .i64 1024)), (.one (.i .i64 1)), (.one (.w .u64 10))], [], [], (.one (.one (.i .i64 0))), [(1057, (.s .u64 (.v 10)))], 1⟩,
  ⟨[(.one (.i .i64 1024)), (.one (.i .i64 6)), (.one (.w .u64 10))], [], [], (.one (.one (.i .i64 0))), [(1062, (.s .u64 (.v 10)))], 1⟩,
  ⟨[(.one (.i .i64 1024)), (.one (.i .i64 2)), (.one (.w .u64 10))], [], [], (.one (.one (.i .i64 0))), [(1058, (.s .u64 (.v 10)))], 1⟩,
  ⟨[(.one (.i .i64 1024)), (.one (.i .i64 3)), (.one (.w .u64 10))], [], [], (.one (.one (.i .i64 0))), [(1059, (.s .u64 (.v 10)))], 1⟩]
theorem s8_1024_ok : smsB mc8 8 call0 s8_1024 = true := by decide +kernel
def s8_1088 : List Sm := [⟨[(.one (.i .i64 1088)), (.one (.i .i64 7)), (.one (.w .u64 10))], [], [], (.one (.one (.i .i64 0))), [(1127, (.s .u64 (.v 10)))], 1⟩]
theorem s8_1088_ok : smsB mc8 8 call0 s8_1088 = true := by decide +kernel
def s10_1024 : List Sm := [tm10_0 1024]
theorem s10_1024_ok : smsB mc10 10 call0 s10_1024 = true := by decide +kernel
def s10_1088 : List Sm := [tm10_0 1088]
theorem s10_1088_ok : smsB mc10 10 call0 s10_1088 = true := by decide +kernel
def s10_1096 : List Sm := [tm10_1 1096,
  ⟨[(.one (.i .i64 1096))], [(1096, 100), (1097, 101), (1098, 102), (1099, 103)], [((.cmp .eql (.op .shr .u64 (.op .and .u64 (.v 100) (.lit 32505856)) (.lit 20)) (.lit 0)), true), ((.cmp .eql (.op .shr .u64 (.op .and .u64 (.v 100) (.lit 8521215115264)) (.lit 38)) (.lit 0)), true), ((.cmp .neq (.op .shr .u64 (.v 100) (.lit 43)) (.lit 0)), false), ((.cmp .geq (.v 101) (.lit 4294967296)), false), ((.cmp .eql (.cv .i64 (.op .shr .u64 (.op .and .u64 (.v 100) (.lit 15)) (.lit 0))) (.lit 2)), false), ((.cmp .eql (.cv .i64 (.op .shr .u64 (.op .and .u64 (.v 100) (.lit 15)) (.lit 0))) (.lit 4)), false), ((.cmp .eql (.cv .i64 (.op .shr .u64 (.op .and .u64 (.v 100) (.lit 15)) (.lit 0))) (.lit 5)), false), ((.cmp .eql (.cv .i64 (.op .shr .u64 (.op .and .u64 (.v 100) (.lit 15)) (.lit 0))) (.lit 6)), false), ((.cmp .eql (.cv .i64 (.op .shr .u64 (.op .and .u64 (.v 100) (.lit 15)) (.lit 0))) (.lit 8)), false), ((.cmp .eql (.cv .i64 (.op .shr .u64 (.op .and .u64 (.v 100) (.lit 15)) (.lit 0))) (.lit 1)), false), ((.cmp .eql (.cv .i64 (.op .shr .u64 (.op .and .u64 (.v 100) (.lit 15)) (.lit 0))) (.lit 10)), false), ((.cmp .eql (.cv .i64 (.op .shr .u64 (.op .and .u64 (.v 100) (.lit 15)) (.lit 0))) (.lit 3)), false), ((.cmp .eql (.cv .i64 (.op .shr .u64 (.op .and .u64 (.v 100) (.lit 15)) (.lit 0))) (.lit 9)), true), ((.cmp .eql (.cv .i64 (.v 101)) (.lit 0)), true), ((.cmp .eql (.cv .i64 (.op .shr .u64 (.op .and .u64 (.v 100) (.lit 234881024)) (.lit 25))) (.lit 0)), true), ((.cmp .eql (.cv .i64 (.op .shr .u64 (.op .and .u64 (.v 100) (.lit 270582939648)) (.lit 32))) (.lit 0)), true), ((.cmp .eql (.cv .i64 (.op .shr .u64 (.op .and .u64 (.v 100) (.lit 4026531840)) (.lit 28))) (.lit 0)), true), ((.cmp .lss (.cv .i64 (.op .shr .u64 (.op .and .u64 (.v 100) (.lit 1048560)) (.lit 4))) (.lit 1024)), false), ((.cmp .gtr (.cv .i64 (.op .shr .u64 (.op .and .u64 (.v 100) (.lit 1048560)) (.lit 4))) (.lit 65535)), false), ((.cmp .neq (.op .rem .i64 (.cv .i64 (.op .shr .u64 (.op .and .u64 (.v 100) (.lit 1048560)) (.lit 4))) (.lit 64)) (.lit 0)), false), ((.cmp .neq (.op .shr .u64 (.v 102) (.lit 48)) (.lit 0)), false), ((.cmp .neq (.v 103) (.lit 0)), false), ((.cmp .geq (.cv .i64 (.op .shr .u64 (.op .and .u64 (.v 102) (.lit 65535)) (.lit 0))) (.lit 0)), true), ((.cmp .lss (.cv .i64 (.op .shr .u64 (.op .and .u64 (.v 102) (.lit 65535)) (.lit 0))) (.lit 65536)), true), ((.cmp .eql (.op .rem .i64 (.cv .i64 (.op .shr .u64 (.op .and .u64 (.v 102) (.lit 65535)) (.lit 0))) (.lit 4)) (.lit 0)), true), ((.cmp .geq (.cv .i64 (.op .shr .u64 (.op .and .u64 (.v 102) (.lit 4294901760)) (.lit 16))) (.lit 0)), true), ((.cmp .lss (.cv .i64 (.op .shr .u64 (.op .and .u64 (.v 102) (.lit 4294901760)) (.lit 16))) (.lit 65536)), true), ((.cmp .eql (.op .rem .i64 (.cv .i64 (.op .shr .u64 (.op .and .u64 (.v 102) (.lit 4294901760)) (.lit 16))) (.lit 4)) (.lit 0)), true), ((.cmp .geq (.cv .i64 (.op .shr .u64 (.op .and .u64 (.v 102) (.lit 281470681743360)) (.lit 32))) (.lit 0)), true), ((.cmp .lss (.cv .i64 (.op .shr .u64 (.op .and .u64 (.v 102) (.lit 281470681743360)) (.lit 32))) (.lit 65536)), true)], (.tup [(.agg [(.i .i64 9), (.s .i64 (.cv .i64 (.op .shr .u64 (.op .and .u64 (.v 100) (.lit 1048560)) (.lit 4)))), (.i .i64 0), (.i .i64 0), (.i .i64 0), (.i .i64 0), (.i .i64 0), (.i .i64 0), (.i .i64 0), (.i .i64 0), (.i .i64 0), (.s .i64 (.cv .i64 (.op .shr .u64 (.op .and .u64 (.v 102) (.lit 65535)) (.lit 0)))), (.s .i64 (.cv .i64 (.op .shr .u64 (.op .and .u64 (.v 102) (.lit 4294901760)) (.lit 16)))), (.s .i64 (.cv .i64 (.op .shr .u64 (.op .and .u64 (.v 102) (.lit 281470681743360)) (.lit 32))))]), (.one (.i .i64 0))]), [], 4⟩]
theorem s10_1096_ok : smsB mc10 10 call0 s10_1096 = true := by decide +kernel
end Go.Ev.X
end
