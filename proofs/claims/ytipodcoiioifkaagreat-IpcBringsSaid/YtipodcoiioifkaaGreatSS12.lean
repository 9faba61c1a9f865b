/-
  What functions do to a memory, of words that are symbols.
-/
import Derived.Test.YtipodcoiioifkaaGreatSD0
set_option linter.unusedSimpArgs false
set_option linter.unusedVariables false
set_option maxRecDepth 100000
noncomputable section
namespace Go.Ev.X
open Go Go.Ev
def s117_2048 : List Sm := [tm117_9 2048,
  tm117_10 2048,
  tm117_11 2048,
  tm117_12 2048,
  tm117_13 2048]
theorem s117_2048_ok : smsB mc117 117 call0 s117_2048 = true := by decide +kernel
def s117_2052 : List Sm := [tm117_9 2052]
theorem s117_2052_ok : smsB mc117 117 call0 s117_2052 = true := by decide +kernel
def s117_2056 : List Sm := [tm117_10 2056]
theorem s117_2056_ok : smsB mc117 117 call0 s117_2056 = true := by decide +kernel
def s117_2060 : List Sm := [tm117_11 2060]
theorem s117_2060_ok : smsB mc117 117 call0 s117_2060 = true := by decide +kernel
def s117_2064 : List Sm := [tm117_11 2064]
theorem s117_2064_ok : smsB mc117 117 call0 s117_2064 = true := by decide +kernel
def s117_2068 : List Sm := [tm117_11 2068]
theorem s117_2068_ok : smsB mc117 117 call0 s117_2068 = true := by decide +kernel
def s117_2072 : List Sm := [tm117_12 2072]
theorem s117_2072_ok : smsB mc117 117 call0 s117_2072 = true := by decide +kernel
def s117_2076 : List Sm := [tm117_12 2076]
theorem s117_2076_ok : smsB mc117 117 call0 s117_2076 = true := by decide +kernel
def s117_2080 : List Sm := [tm117_13 2080]
theorem s117_2080_ok : smsB mc117 117 call0 s117_2080 = true := by decide +kernel
def s117_2084 : List Sm := [tm117_13 2084]
theorem s117_2084_ok : smsB mc117 117 call0 s117_2084 = true := by decide +kernel
def s117_2120 : List Sm := [⟨[(.one (.i .i64 2120)), (.agg [(.w .i64 10), (.w .i64 11), (.i .i64 0), (.w .i64 12), (.w .i64 13), (.i .i64 0), (.w .i64 14), (.w .i64 15), (.w .i64 16), (.w .i64 17), (.w .i64 18), (.w .i64 19), (.w .i64 20), (.w .i64 21)])], [], [((.cmp .eql (.v 10) (.lit 0)), false), ((.cmp .eql (.v 10) (.lit 1)), false), ((.cmp .eql (.v 10) (.lit 2)), false), ((.cmp .eql (.v 10) (.lit 10)), false), ((.cmp .eql (.v 10) (.lit 3)), false), ((.cmp .eql (.v 10) (.lit 9)), false), ((.cmp .eql (.v 10) (.lit 4)), false), ((.cmp .eql (.v 10) (.lit 5)), false), ((.cmp .eql (.v 10) (.lit 6)), false), ((.cmp .eql (.v 10) (.lit 7)), false), ((.cmp .eql (.v 10) (.lit 8)), false), ((.cmp .lss (.v 10) (.lit 0)), false), ((.cmp .gtr (.v 10) (.lit 13)), false), ((.cmp .eql (.v 10) (.lit 12)), false), ((.cmp .eql (.v 10) (.v 10)), true), ((.cmp .eql (.v 11) (.lit 0)), true), ((.cmp .eql (.v 12) (.lit 0)), true), ((.cmp .eql (.v 13) (.lit 0)), true), ((.cmp .eql (.v 14) (.lit 0)), true), ((.cmp .eql (.v 15) (.lit 0)), true), ((.cmp .eql (.v 16) (.lit 0)), true), ((.cmp .eql (.v 17) (.lit 0)), true), ((.cmp .eql (.v 18) (.lit 0)), true), ((.cmp .geq (.v 19) (.lit 0)), true), ((.cmp .lss (.v 19) (.lit 65536)), true), ((.cmp .eql (.op .rem .i64 (.v 19) (.lit 4)) (.lit 0)), true), ((.cmp .geq (.v 20) (.lit 0)), true), ((.cmp .lss (.v 20) (.lit 65536)), true), ((.cmp .eql (.op .rem .i64 (.v 20) (.lit 4)) (.lit 0)), true), ((.cmp .geq (.v 21) (.lit 0)), true), ((.cmp .lss (.v 21) (.lit 65536)), true), ((.cmp .neq (.op .shr .u64 (.op .shl .u64 (.cv .u64 (.v 10)) (.lit 0)) (.lit 0)) (.cv .u64 (.v 10))), false), ((.cmp .neq (.op .andNot .u64 (.op .shl .u64 (.cv .u64 (.v 10)) (.lit 0)) (.lit 15)) (.lit 0)), false), ((.cmp .neq (.op .shr .u64 (.op .shl .u64 (.cv .u64 (.v 19)) (.lit 0)) (.lit 0)) (.cv .u64 (.v 19))), false), ((.cmp .neq (.op .andNot .u64 (.op .shl .u64 (.cv .u64 (.v 19)) (.lit 0)) (.lit 65535)) (.lit 0)), false), ((.cmp .neq (.op .shr .u64 (.op .shl .u64 (.cv .u64 (.v 20)) (.lit 16)) (.lit 16)) (.cv .u64 (.v 20))), false), ((.cmp .neq (.op .andNot .u64 (.op .shl .u64 (.cv .u64 (.v 20)) (.lit 16)) (.lit 4294901760)) (.lit 0)), false), ((.cmp .neq (.op .shr .u64 (.op .shl .u64 (.cv .u64 (.v 21)) (.lit 32)) (.lit 32)) (.cv .u64 (.v 21))), false), ((.cmp .neq (.op .andNot .u64 (.op .shl .u64 (.cv .u64 (.v 21)) (.lit 32)) (.lit 281470681743360)) (.lit 0)), false)], (.one (.one (.i .i64 0))), [(2120, (.s .u64 (.op .or .u64 (.op .andNot .u64 (.op .or .u64 (.op .andNot .u64 (.op .or .u64 (.op .andNot .u64 (.op .or .u64 (.op .andNot .u64 (.op .or .u64 (.op .andNot .u64 (.op .or .u64 (.op .andNot .u64 (.op .or .u64 (.lit 0) (.op .shl .u64 (.cv .u64 (.v 10)) (.lit 0))) (.lit 1048560)) (.lit 0)) (.lit 32505856)) (.lit 0)) (.lit 234881024)) (.lit 0)) (.lit 4026531840)) (.lit 0)) (.lit 270582939648)) (.lit 0)) (.lit 8521215115264)) (.lit 0)))), (2122, (.s .u64 (.op .or .u64 (.op .andNot .u64 (.op .or .u64 (.op .andNot .u64 (.op .or .u64 (.lit 0) (.op .shl .u64 (.cv .u64 (.v 19)) (.lit 0))) (.lit 4294901760)) (.op .shl .u64 (.cv .u64 (.v 20)) (.lit 16))) (.lit 281470681743360)) (.op .shl .u64 (.cv .u64 (.v 21)) (.lit 32))))), (2121, (.i .u64 0)), (2123, (.i .u64 0))], 4⟩]
theorem s117_2120_ok : smsB mc117 117 call0 s117_2120 = true := by decide +kernel
end Go.Ev.X
end
