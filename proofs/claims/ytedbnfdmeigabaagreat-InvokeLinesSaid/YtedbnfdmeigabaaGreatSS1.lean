/-
  What functions do to a memory, of words that are symbols.
-/
import Derived.Test.YtedbnfdmeigabaaGreatSD0
set_option linter.unusedSimpArgs false
set_option linter.unusedVariables false
set_option maxRecDepth 100000
noncomputable section
namespace Go.Ev.X
open Go Go.Ev
def s17_3136 : List Sm := [⟨[(.one (.i .i64 3136))], [(3136, 100), (3137, 101)], [((.cmp .neq (.op .shr .u64 (.v 100) (.lit 34)) (.lit 0)), false), ((.cmp .neq (.op .shr .u64 (.v 101) (.lit 44)) (.lit 0)), false), ((.cmp .gtr (.cv .i64 (.op .shr .u64 (.op .and .u64 (.v 100) (.lit 262140)) (.lit 2))) (.lit 0)), false), ((.cmp .eql (.cv .i64 (.op .shr .u64 (.op .and .u64 (.v 100) (.lit 262140)) (.lit 2))) (.lit 0)), true), ((.cmp .eql (.cv .i64 (.op .shr .u64 (.op .and .u64 (.v 100) (.lit 3)) (.lit 0))) (.lit 0)), true), ((.cmp .eql (.cv .i64 (.op .shr .u64 (.op .and .u64 (.v 100) (.lit 17179607040)) (.lit 18))) (.lit 0)), true), ((.cmp .gtr (.cv .i64 (.op .shr .u64 (.op .and .u64 (.v 101) (.lit 268435455)) (.lit 0))) (.lit 0)), false)], (.tup [(.agg [(.i .i64 0), (.i .i64 0), (.i .i64 0), (.s .i64 (.cv .i64 (.op .shr .u64 (.op .and .u64 (.v 101) (.lit 268435455)) (.lit 0)))), (.s .i64 (.cv .i64 (.op .shr .u64 (.op .and .u64 (.v 101) (.lit 17591917608960)) (.lit 28))))]), (.one (.i .i64 0))]), [], 2⟩,
  ⟨[(.one (.i .i64 3136))], [(3136, 100), (3137, 101)], [((.cmp .neq (.op .shr .u64 (.v 100) (.lit 34)) (.lit 0)), false), ((.cmp .neq (.op .shr .u64 (.v 101) (.lit 44)) (.lit 0)), false), ((.cmp .gtr (.cv .i64 (.op .shr .u64 (.op .and .u64 (.v 100) (.lit 262140)) (.lit 2))) (.lit 0)), true), ((.cmp .eql (.cv .i64 (.op .shr .u64 (.op .and .u64 (.v 100) (.lit 262140)) (.lit 2))) (.lit 0)), false), ((.cmp .eql (.cv .i64 (.op .shr .u64 (.op .and .u64 (.v 100) (.lit 3)) (.lit 0))) (.lit 0)), false), ((.cmp .eql (.cv .i64 (.op .shr .u64 (.op .and .u64 (.v 100) (.lit 3)) (.lit 0))) (.lit 1)), true), ((.cmp .gtr (.cv .i64 (.op .shr .u64 (.op .and .u64 (.v 100) (.lit 17179607040)) (.lit 18))) (.lit 0)), true), ((.cmp .gtr (.cv .i64 (.op .shr .u64 (.op .and .u64 (.v 101) (.lit 268435455)) (.lit 0))) (.lit 0)), false)], (.tup [(.agg [(.i .i64 1), (.s .i64 (.cv .i64 (.op .shr .u64 (.op .and .u64 (.v 100) (.lit 262140)) (.lit 2)))), (.s .i64 (.cv .i64 (.op .shr .u64 (.op .and .u64 (.v 100) (.lit 17179607040)) (.lit 18)))), (.s .i64 (.cv .i64 (.op .shr .u64 (.op .and .u64 (.v 101) (.lit 268435455)) (.lit 0)))), (.s .i64 (.cv .i64 (.op .shr .u64 (.op .and .u64 (.v 101) (.lit 17591917608960)) (.lit 28))))]), (.one (.i .i64 0))]), [], 2⟩]
theorem s17_3136_ok : smsB mc17 17 call0 s17_3136 = true := by decide +kernel
def s20_1024 : List Sm := [⟨[(.one (.i .i64 1024)), (.one (.i .i64 6)), (.one (.w .u64 10))], [], [], (.one (.one (.i .i64 0))), [(1062, (.s .u64 (.v 10)))], 1⟩,
  ⟨[(.one (.i .i64 1024)), (.one (.i .i64 2)), (.one (.w .u64 10))], [], [], (.one (.one (.i .i64 0))), [(1058, (.s .u64 (.v 10)))], 1⟩,
  ⟨[(.one (.i .i64 1024)), (.one (.i .i64 4)), (.one (.w .u64 10))], [], [], (.one (.one (.i .i64 0))), [(1060, (.s .u64 (.v 10)))], 1⟩,
  ⟨[(.one (.i .i64 1024)), (.one (.i .i64 5)), (.one (.w .u64 10))], [], [], (.one (.one (.i .i64 0))), [(1061, (.s .u64 (.v 10)))], 1⟩]
theorem s20_1024_ok : smsB mc20 20 call0 s20_1024 = true := by decide +kernel
def s32_64 : List Sm := [tm32_0 64,
  tm32_1 64]
theorem s32_64_ok : smsB mc32 32 call0 s32_64 = true := by decide +kernel
def s32_68 : List Sm := [tm32_0 68,
  tm32_1 68]
theorem s32_68_ok : smsB mc32 32 call0 s32_68 = true := by decide +kernel
def s32_72 : List Sm := [tm32_0 72,
  tm32_1 72]
theorem s32_72_ok : smsB mc32 32 call0 s32_72 = true := by decide +kernel
end Go.Ev.X
end
