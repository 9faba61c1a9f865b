/-
  What functions do to a memory, of words that are symbols.
-/
import Derived.Test.YtipodcoiioifkaaGreatSD0
set_option linter.unusedSimpArgs false
set_option linter.unusedVariables false
set_option maxRecDepth 100000
noncomputable section
namespace Go.Ev.X
open Go Go.Ev
def s10_2164 : List Sm := [tm10_1 2164,
  tm10_2 2164,
  tm10_3 2164,
  tm10_4 2164,
  tm10_5 2164,
  tm10_6 2164]
theorem s10_2164_ok : smsB mc10 10 call0 s10_2164 = true := by decide +kernel
def s10_2168 : List Sm := [tm10_1 2168,
  tm10_2 2168,
  tm10_3 2168,
  tm10_4 2168,
  tm10_5 2168,
  tm10_6 2168]
theorem s10_2168_ok : smsB mc10 10 call0 s10_2168 = true := by decide +kernel
def s10_2172 : List Sm := [tm10_1 2172,
  tm10_2 2172,
  tm10_3 2172,
  tm10_4 2172,
  tm10_5 2172,
  tm10_6 2172]
theorem s10_2172_ok : smsB mc10 10 call0 s10_2172 = true := by decide +kernel
def s10_2176 : List Sm := [tm10_1 2176,
  tm10_2 2176,
  tm10_3 2176,
  tm10_4 2176,
  tm10_5 2176,
  tm10_6 2176]
theorem s10_2176_ok : smsB mc10 10 call0 s10_2176 = true := by decide +kernel
def s10_2180 : List Sm := [tm10_1 2180,
  tm10_2 2180,
  tm10_3 2180,
  tm10_4 2180,
  tm10_5 2180,
  tm10_6 2180]
theorem s10_2180_ok : smsB mc10 10 call0 s10_2180 = true := by decide +kernel
def s10_2184 : List Sm := [tm10_1 2184,
  tm10_2 2184,
  tm10_3 2184,
  tm10_4 2184,
  tm10_5 2184,
  tm10_6 2184]
theorem s10_2184_ok : smsB mc10 10 call0 s10_2184 = true := by decide +kernel
def s10_2188 : List Sm := [tm10_1 2188,
  tm10_2 2188,
  tm10_3 2188,
  tm10_4 2188,
  tm10_5 2188,
  tm10_6 2188]
theorem s10_2188_ok : smsB mc10 10 call0 s10_2188 = true := by decide +kernel
def s10_2192 : List Sm := [tm10_1 2192,
  tm10_2 2192,
  tm10_3 2192,
  tm10_4 2192,
  tm10_5 2192,
  tm10_6 2192]
theorem s10_2192_ok : smsB mc10 10 call0 s10_2192 = true := by decide +kernel
def s10_2196 : List Sm := [tm10_1 2196,
  tm10_2 2196,
  tm10_3 2196,
  tm10_4 2196,
  tm10_5 2196,
  tm10_6 2196]
theorem s10_2196_ok : smsB mc10 10 call0 s10_2196 = true := by decide +kernel
def s10_2200 : List Sm := [tm10_1 2200,
  tm10_2 2200,
  tm10_3 2200,
  tm10_4 2200,
  tm10_5 2200,
  tm10_6 2200]
theorem s10_2200_ok : smsB mc10 10 call0 s10_2200 = true := by decide +kernel
def s10_2204 : List Sm := [tm10_1 2204,
  tm10_2 2204,
  tm10_3 2204,
  tm10_4 2204,
  tm10_5 2204,
  tm10_6 2204]
theorem s10_2204_ok : smsB mc10 10 call0 s10_2204 = true := by decide +kernel
end Go.Ev.X
end
