/-
  What functions do to a memory, of words that are symbols.
-/
import Derived.Test.YtipodcoiioifkaaGreatSD0
set_option linter.unusedSimpArgs false
set_option linter.unusedVariables false
set_option maxRecDepth 100000
noncomputable section
namespace Go.Ev.X
open Go Go.Ev
def s10_2048 : List Sm := [tm10_1 2048,
  tm10_2 2048,
  tm10_3 2048,
  tm10_4 2048,
  tm10_5 2048,
  tm10_6 2048]
theorem s10_2048_ok : smsB mc10 10 call0 s10_2048 = true := by decide +kernel
def s10_2052 : List Sm := [tm10_2 2052]
theorem s10_2052_ok : smsB mc10 10 call0 s10_2052 = true := by decide +kernel
def s10_2056 : List Sm := [tm10_3 2056]
theorem s10_2056_ok : smsB mc10 10 call0 s10_2056 = true := by decide +kernel
def s10_2060 : List Sm := [tm10_4 2060]
theorem s10_2060_ok : smsB mc10 10 call0 s10_2060 = true := by decide +kernel
def s10_2064 : List Sm := [tm10_4 2064]
theorem s10_2064_ok : smsB mc10 10 call0 s10_2064 = true := by decide +kernel
def s10_2068 : List Sm := [tm10_4 2068]
theorem s10_2068_ok : smsB mc10 10 call0 s10_2068 = true := by decide +kernel
def s10_2072 : List Sm := [tm10_5 2072]
theorem s10_2072_ok : smsB mc10 10 call0 s10_2072 = true := by decide +kernel
def s10_2076 : List Sm := [tm10_5 2076]
theorem s10_2076_ok : smsB mc10 10 call0 s10_2076 = true := by decide +kernel
def s10_2080 : List Sm := [tm10_6 2080]
theorem s10_2080_ok : smsB mc10 10 call0 s10_2080 = true := by decide +kernel
def s10_2084 : List Sm := [tm10_6 2084]
theorem s10_2084_ok : smsB mc10 10 call0 s10_2084 = true := by decide +kernel
def s10_2088 : List Sm := [tm10_7 2088]
theorem s10_2088_ok : smsB mc10 10 call0 s10_2088 = true := by decide +kernel
def s10_2092 : List Sm := [tm10_7 2092]
theorem s10_2092_ok : smsB mc10 10 call0 s10_2092 = true := by decide +kernel
def s10_2096 : List Sm := [tm10_7 2096]
theorem s10_2096_ok : smsB mc10 10 call0 s10_2096 = true := by decide +kernel
end Go.Ev.X
end
