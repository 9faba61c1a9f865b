/-
  What functions do to a memory, of words that are symbols.
-/
import Derived.Test.YtedbnfdmeigabaaGreatSD0
set_option linter.unusedSimpArgs false
set_option linter.unusedVariables false
set_option maxRecDepth 100000
noncomputable section
namespace Go.Ev.X
open Go Go.Ev
def s57_2 : List Sm := [⟨[(.one (.i .i64 2))], [(2, 100)], [], (.tup [(.one (.s .u64 (.v 100))), (.one (.i .i64 0))]), [], 1⟩]
theorem s57_2_ok : smsB mc57 57 call0 s57_2 = true := by decide +kernel
def s57_4 : List Sm := [⟨[(.one (.i .i64 4))], [(4, 100)], [], (.tup [(.one (.s .u64 (.v 100))), (.one (.i .i64 0))]), [], 1⟩]
theorem s57_4_ok : smsB mc57 57 call0 s57_4 = true := by decide +kernel
def s57_8 : List Sm := [⟨[(.one (.i .i64 8))], [(8, 100)], [], (.tup [(.one (.s .u64 (.v 100))), (.one (.i .i64 0))]), [], 1⟩]
theorem s57_8_ok : smsB mc57 57 call0 s57_8 = true := by decide +kernel
def s57_266 : List Sm := [⟨[(.one (.i .i64 266))], [(266, 100)], [], (.tup [(.one (.s .u64 (.v 100))), (.one (.i .i64 0))]), [], 1⟩]
theorem s57_266_ok : smsB mc57 57 call0 s57_266 = true := by decide +kernel
def s61_64 : List Sm := [tm61_2 64,
  tm61_3 64]
theorem s61_64_ok : smsB mc61 61 call0 s61_64 = true := by decide +kernel
def s61_68 : List Sm := [tm61_2 68,
  tm61_3 68]
theorem s61_68_ok : smsB mc61 61 call0 s61_68 = true := by decide +kernel
def s61_72 : List Sm := [tm61_2 72,
  tm61_3 72]
theorem s61_72_ok : smsB mc61 61 call0 s61_72 = true := by decide +kernel
def s61_76 : List Sm := [tm61_2 76,
  tm61_3 76]
theorem s61_76_ok : smsB mc61 61 call0 s61_76 = true := by decide +kernel
def s61_80 : List Sm := [tm61_2 80,
  tm61_3 80]
theorem s61_80_ok : smsB mc61 61 call0 s61_80 = true := by decide +kernel
def s61_84 : List Sm := [tm61_2 84,
  tm61_3 84]
theorem s61_84_ok : smsB mc61 61 call0 s61_84 = true := by decide +kernel
def s61_88 : List Sm := [tm61_2 88,
  tm61_3 88]
theorem s61_88_ok : smsB mc61 61 call0 s61_88 = true := by decide +kernel
def s61_92 : List Sm := [tm61_2 92,
  tm61_3 92]
theorem s61_92_ok : smsB mc61 61 call0 s61_92 = true := by decide +kernel
end Go.Ev.X
end
