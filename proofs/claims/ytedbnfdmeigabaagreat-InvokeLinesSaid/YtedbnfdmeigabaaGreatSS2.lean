/-
  What functions do to a memory, of words that are symbols.
-/
import Derived.Test.YtedbnfdmeigabaaGreatSD0
set_option linter.unusedSimpArgs false
set_option linter.unusedVariables false
set_option maxRecDepth 100000
noncomputable section
namespace Go.Ev.X
open Go Go.Ev
def s32_76 : List Sm := [tm32_0 76,
  tm32_1 76]
theorem s32_76_ok : smsB mc32 32 call0 s32_76 = true := by decide +kernel
def s32_80 : List Sm := [tm32_0 80,
  tm32_1 80]
theorem s32_80_ok : smsB mc32 32 call0 s32_80 = true := by decide +kernel
def s32_84 : List Sm := [tm32_0 84,
  tm32_1 84]
theorem s32_84_ok : smsB mc32 32 call0 s32_84 = true := by decide +kernel
def s32_88 : List Sm := [tm32_0 88,
  tm32_1 88]
theorem s32_88_ok : smsB mc32 32 call0 s32_88 = true := by decide +kernel
def s32_92 : List Sm := [tm32_0 92,
  tm32_1 92]
theorem s32_92_ok : smsB mc32 32 call0 s32_92 = true := by decide +kernel
def s32_96 : List Sm := [tm32_0 96,
  tm32_1 96]
theorem s32_96_ok : smsB mc32 32 call0 s32_96 = true := by decide +kernel
def s32_100 : List Sm := [tm32_0 100,
  tm32_1 100]
theorem s32_100_ok : smsB mc32 32 call0 s32_100 = true := by decide +kernel
def s32_104 : List Sm := [tm32_0 104,
  tm32_1 104]
theorem s32_104_ok : smsB mc32 32 call0 s32_104 = true := by decide +kernel
def s32_108 : List Sm := [tm32_0 108,
  tm32_1 108]
theorem s32_108_ok : smsB mc32 32 call0 s32_108 = true := by decide +kernel
def s32_112 : List Sm := [tm32_0 112,
  tm32_1 112]
theorem s32_112_ok : smsB mc32 32 call0 s32_112 = true := by decide +kernel
def s32_116 : List Sm := [tm32_0 116,
  tm32_1 116]
theorem s32_116_ok : smsB mc32 32 call0 s32_116 = true := by decide +kernel
def s32_120 : List Sm := [tm32_0 120,
  tm32_1 120]
theorem s32_120_ok : smsB mc32 32 call0 s32_120 = true := by decide +kernel
def s32_124 : List Sm := [tm32_0 124,
  tm32_1 124]
theorem s32_124_ok : smsB mc32 32 call0 s32_124 = true := by decide +kernel
end Go.Ev.X
end
