/-
  What functions do to a memory, of words that are symbols.
-/
import Derived.Test.YtipodcoiioifkaaGreatSD0
set_option linter.unusedSimpArgs false
set_option linter.unusedVariables false
set_option maxRecDepth 100000
noncomputable section
namespace Go.Ev.X
open Go Go.Ev
def s24_1 : List Sm := [⟨[(.one (.i .i64 1)), (.one (.w .u64 10))], [], [], (.one (.one (.i .i64 0))), [(1, (.s .u64 (.v 10)))], 1⟩]
theorem s24_1_ok : smsB mc24 24 call0 s24_1 = true := by decide +kernel
def s24_2 : List Sm := [⟨[(.one (.i .i64 2)), (.one (.w .u64 10))], [], [], (.one (.one (.i .i64 0))), [(2, (.s .u64 (.v 10)))], 1⟩]
theorem s24_2_ok : smsB mc24 24 call0 s24_2 = true := by decide +kernel
def s24_4 : List Sm := [⟨[(.one (.i .i64 4)), (.one (.w .u64 10))], [], [], (.one (.one (.i .i64 0))), [(4, (.s .u64 (.v 10)))], 1⟩]
theorem s24_4_ok : smsB mc24 24 call0 s24_4 = true := by decide +kernel
def s24_8 : List Sm := [⟨[(.one (.i .i64 8)), (.one (.w .u64 10))], [], [], (.one (.one (.i .i64 0))), [(8, (.s .u64 (.v 10)))], 1⟩]
theorem s24_8_ok : smsB mc24 24 call0 s24_8 = true := by decide +kernel
def s24_266 : List Sm := [⟨[(.one (.i .i64 266)), (.one (.w .u64 10))], [], [], (.one (.one (.i .i64 0))), [(266, (.s .u64 (.v 10)))], 1⟩]
theorem s24_266_ok : smsB mc24 24 call0 s24_266 = true := by decide +kernel
def s27_1 : List Sm := [⟨[(.one (.i .i64 1))], [(1, 100)], [], (.tup [(.one (.s .u64 (.v 100))), (.one (.i .i64 0))]), [], 1⟩]
theorem s27_1_ok : smsB mc27 27 call0 s27_1 = true := by decide +kernel
def s27_2 : List Sm := [⟨[(.one (.i .i64 2))], [(2, 100)], [], (.tup [(.one (.s .u64 (.v 100))), (.one (.i .i64 0))]), [], 1⟩]
theorem s27_2_ok : smsB mc27 27 call0 s27_2 = true := by decide +kernel
def s27_4 : List Sm := [⟨[(.one (.i .i64 4))], [(4, 100)], [], (.tup [(.one (.s .u64 (.v 100))), (.one (.i .i64 0))]), [], 1⟩]
theorem s27_4_ok : smsB mc27 27 call0 s27_4 = true := by decide +kernel
def s27_8 : List Sm := [⟨[(.one (.i .i64 8))], [(8, 100)], [], (.tup [(.one (.s .u64 (.v 100))), (.one (.i .i64 0))]), [], 1⟩]
theorem s27_8_ok : smsB mc27 27 call0 s27_8 = true := by decide +kernel
def s27_266 : List Sm := [⟨[(.one (.i .i64 266))], [(266, 100)], [], (.tup [(.one (.s .u64 (.v 100))), (.one (.i .i64 0))]), [], 1⟩]
theorem s27_266_ok : smsB mc27 27 call0 s27_266 = true := by decide +kernel
end Go.Ev.X
end
