/-
  What functions do to a memory, of words that are symbols.
-/
import Derived.Test.YtipodcoiioifkaaGreatSD0
set_option linter.unusedSimpArgs false
set_option linter.unusedVariables false
set_option maxRecDepth 100000
noncomputable section
namespace Go.Ev.X
open Go Go.Ev
def s117_2168 : List Sm := [tm117_9 2168,
  tm117_10 2168,
  tm117_11 2168,
  tm117_12 2168,
  tm117_13 2168]
theorem s117_2168_ok : smsB mc117 117 call0 s117_2168 = true := by decide +kernel
def s117_2172 : List Sm := [tm117_9 2172,
  tm117_10 2172,
  tm117_11 2172,
  tm117_12 2172,
  tm117_13 2172]
theorem s117_2172_ok : smsB mc117 117 call0 s117_2172 = true := by decide +kernel
def s117_2176 : List Sm := [tm117_9 2176,
  tm117_10 2176,
  tm117_11 2176,
  tm117_12 2176,
  tm117_13 2176]
theorem s117_2176_ok : smsB mc117 117 call0 s117_2176 = true := by decide +kernel
def s117_2180 : List Sm := [tm117_9 2180,
  tm117_10 2180,
  tm117_11 2180,
  tm117_12 2180,
  tm117_13 2180]
theorem s117_2180_ok : smsB mc117 117 call0 s117_2180 = true := by decide +kernel
def s117_2184 : List Sm := [tm117_9 2184,
  tm117_10 2184,
  tm117_11 2184,
  tm117_12 2184,
  tm117_13 2184]
theorem s117_2184_ok : smsB mc117 117 call0 s117_2184 = true := by decide +kernel
def s117_2188 : List Sm := [tm117_9 2188,
  tm117_10 2188,
  tm117_11 2188,
  tm117_12 2188,
  tm117_13 2188]
theorem s117_2188_ok : smsB mc117 117 call0 s117_2188 = true := by decide +kernel
def s117_2192 : List Sm := [tm117_9 2192,
  tm117_10 2192,
  tm117_11 2192,
  tm117_12 2192,
  tm117_13 2192]
theorem s117_2192_ok : smsB mc117 117 call0 s117_2192 = true := by decide +kernel
def s117_2196 : List Sm := [tm117_9 2196,
  tm117_10 2196,
  tm117_11 2196,
  tm117_12 2196,
  tm117_13 2196]
theorem s117_2196_ok : smsB mc117 117 call0 s117_2196 = true := by decide +kernel
def s117_2200 : List Sm := [tm117_9 2200,
  tm117_10 2200,
  tm117_11 2200,
  tm117_12 2200,
  tm117_13 2200]
theorem s117_2200_ok : smsB mc117 117 call0 s117_2200 = true := by decide +kernel
def s117_2204 : List Sm := [tm117_9 2204,
  tm117_10 2204,
  tm117_11 2204,
  tm117_12 2204,
  tm117_13 2204]
theorem s117_2204_ok : smsB mc117 117 call0 s117_2204 = true := by decide +kernel
end Go.Ev.X
end
