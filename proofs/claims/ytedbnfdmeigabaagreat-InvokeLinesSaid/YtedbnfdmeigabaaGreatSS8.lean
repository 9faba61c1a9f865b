/-
  What functions do to a memory, of words that are symbols.
-/
import Derived.Test.YtedbnfdmeigabaaGreatSD0
set_option linter.unusedSimpArgs false
set_option linter.unusedVariables false
set_option maxRecDepth 100000
noncomputable section
namespace Go.Ev.X
open Go Go.Ev
def s61_96 : List Sm := [tm61_2 96,
  tm61_3 96]
theorem s61_96_ok : smsB mc61 61 call0 s61_96 = true := by decide +kernel
def s61_100 : List Sm := [tm61_2 100,
  tm61_3 100]
theorem s61_100_ok : smsB mc61 61 call0 s61_100 = true := by decide +kernel
def s61_104 : List Sm := [tm61_2 104,
  tm61_3 104]
theorem s61_104_ok : smsB mc61 61 call0 s61_104 = true := by decide +kernel
def s61_108 : List Sm := [tm61_2 108,
  tm61_3 108]
theorem s61_108_ok : smsB mc61 61 call0 s61_108 = true := by decide +kernel
def s61_112 : List Sm := [tm61_2 112,
  tm61_3 112]
theorem s61_112_ok : smsB mc61 61 call0 s61_112 = true := by decide +kernel
def s61_116 : List Sm := [tm61_2 116,
  tm61_3 116]
theorem s61_116_ok : smsB mc61 61 call0 s61_116 = true := by decide +kernel
def s61_120 : List Sm := [tm61_2 120,
  tm61_3 120]
theorem s61_120_ok : smsB mc61 61 call0 s61_120 = true := by decide +kernel
def s61_124 : List Sm := [tm61_2 124,
  tm61_3 124]
theorem s61_124_ok : smsB mc61 61 call0 s61_124 = true := by decide +kernel
def s61_1024 : List Sm := [⟨[(.one (.i .i64 1024))], [(1024, 100), (1025, 101), (1026, 102), (1027, 103)], [((.cmp .eql (.op .shr .u64 (.op .and .u64 (.v 100) (.lit 32505856)) (.lit 20)) (.lit 8)), true), ((.cmp .eql (.op .shr .u64 (.op .and .u64 (.v 100) (.lit 8521215115264)) (.lit 38)) (.lit 24)), true), ((.cmp .neq (.op .shr .u64 (.v 100) (.lit 43)) (.lit 0)), false), ((.cmp .geq (.v 101) (.lit 4294967296)), false), ((.cmp .eql (.cv .i64 (.op .shr .u64 (.op .and .u64 (.v 100) (.lit 15)) (.lit 0))) (.lit 2)), true), ((.cmp .eql (.cv .i64 (.op .shr .u64 (.op .and .u64 (.v 100) (.lit 234881024)) (.lit 25))) (.lit 0)), true), ((.cmp .eql (.cv .i64 (.op .shr .u64 (.op .and .u64 (.v 100) (.lit 270582939648)) (.lit 32))) (.lit 0)), true), ((.cmp .eql (.cv .i64 (.op .shr .u64 (.op .and .u64 (.v 100) (.lit 4026531840)) (.lit 28))) (.lit 0)), true), ((.cmp .lss (.cv .i64 (.op .shr .u64 (.op .and .u64 (.v 100) (.lit 1048560)) (.lit 4))) (.lit 1024)), false), ((.cmp .gtr (.cv .i64 (.op .shr .u64 (.op .and .u64 (.v 100) (.lit 1048560)) (.lit 4))) (.lit 65535)), false), ((.cmp .neq (.op .rem .i64 (.cv .i64 (.op .shr .u64 (.op .and .u64 (.v 100) (.lit 1048560)) (.lit 4))) (.lit 1024)) (.lit 0)), false), ((.cmp .geq (.cv .i64 (.v 101)) (.lit 0)), true), ((.cmp .leq (.cv .i64 (.v 101)) (.lit 16777215)), true), ((.cmp .neq (.op .shr .u64 (.v 102) (.lit 48)) (.lit 0)), false), ((.cmp .neq (.v 103) (.lit 0)), false), ((.cmp .geq (.cv .i64 (.op .shr .u64 (.op .and .u64 (.v 102) (.lit 65535)) (.lit 0))) (.lit 0)), true), ((.cmp .lss (.cv .i64 (.op .shr .u64 (.op .and .u64 (.v 102) (.lit 65535)) (.lit 0))) (.lit 65536)), true), ((.cmp .eql (.op .rem .i64 (.cv .i64 (.op .shr .u64 (.op .and .u64 (.v 102) (.lit 65535)) (.lit 0))) (.lit 4)) (.lit 0)), true), ((.cmp .geq (.cv .i64 (.op .shr .u64 (.op .and .u64 (.v 102) (.lit 4294901760)) (.lit 16))) (.lit 0)), true), ((.cmp .lss (.cv .i64 (.op .shr .u64 (.op .and .u64 (.v 102) (.lit 4294901760)) (.lit 16))) (.lit 65536)), true), ((.cmp .eql (.op .rem .i64 (.cv .i64 (.op .shr .u64 (.op .and .u64 (.v 102) (.lit 4294901760)) (.lit 16))) (.lit 4)) (.lit 0)), true), ((.cmp .geq (.cv .i64 (.op .shr .u64 (.op .and .u64 (.v 102) (.lit 281470681743360)) (.lit 32))) (.lit 0)), true), ((.cmp .lss (.cv .i64 (.op .shr .u64 (.op .and .u64 (.v 102) (.lit 281470681743360)) (.lit 32))) (.lit 65536)), true)], (.tup [(.agg [(.i .i64 2), (.s .i64 (.cv .i64 (.op .shr .u64 (.op .and .u64 (.v 100) (.lit 1048560)) (.lit 4)))), (.i .i64 8), (.i .i64 0), (.s .i64 (.cv .i64 (.v 101))), (.i .i64 24), (.i .i64 0), (.i .i64 0), (.i .i64 0), (.i .i64 0), (.i .i64 0), (.s .i64 (.cv .i64 (.op .shr .u64 (.op .and .u64 (.v 102) (.lit 65535)) (.lit 0)))), (.s .i64 (.cv .i64 (.op .shr .u64 (.op .and .u64 (.v 102) (.lit 4294901760)) (.lit 16)))), (.s .i64 (.cv .i64 (.op .shr .u64 (.op .and .u64 (.v 102) (.lit 281470681743360)) (.lit 32))))]), (.one (.i .i64 0))]), [], 4⟩]
theorem s61_1024_ok : smsB mc61 61 call0 s61_1024 = true := by decide +kernel
end Go.Ev.X
end
