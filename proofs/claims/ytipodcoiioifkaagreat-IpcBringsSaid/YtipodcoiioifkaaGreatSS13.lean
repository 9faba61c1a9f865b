/-
  What functions do to a memory, of words that are symbols.
-/
import Derived.Test.YtipodcoiioifkaaGreatSD0
set_option linter.unusedSimpArgs false
set_option linter.unusedVariables false
set_option maxRecDepth 100000
noncomputable section
namespace Go.Ev.X
open Go Go.Ev
def s117_2124 : List Sm := [tm117_9 2124,
  tm117_10 2124,
  tm117_11 2124,
  tm117_12 2124,
  tm117_13 2124]
theorem s117_2124_ok : smsB mc117 117 call0 s117_2124 = true := by decide +kernel
def s117_2128 : List Sm := [tm117_9 2128,
  tm117_10 2128,
  tm117_11 2128,
  tm117_12 2128,
  tm117_13 2128]
theorem s117_2128_ok : smsB mc117 117 call0 s117_2128 = true := by decide +kernel
def s117_2132 : List Sm := [tm117_9 2132,
  tm117_10 2132,
  tm117_11 2132,
  tm117_12 2132,
  tm117_13 2132]
theorem s117_2132_ok : smsB mc117 117 call0 s117_2132 = true := by decide +kernel
def s117_2136 : List Sm := [tm117_9 2136,
  tm117_10 2136,
  tm117_11 2136,
  tm117_12 2136,
  tm117_13 2136]
theorem s117_2136_ok : smsB mc117 117 call0 s117_2136 = true := by decide +kernel
def s117_2140 : List Sm := [tm117_9 2140,
  tm117_10 2140,
  tm117_11 2140,
  tm117_12 2140,
  tm117_13 2140]
theorem s117_2140_ok : smsB mc117 117 call0 s117_2140 = true := by decide +kernel
def s117_2144 : List Sm := [tm117_9 2144,
  tm117_10 2144,
  tm117_11 2144,
  tm117_12 2144,
  tm117_13 2144]
theorem s117_2144_ok : smsB mc117 117 call0 s117_2144 = true := by decide +kernel
def s117_2148 : List Sm := [tm117_9 2148,
  tm117_10 2148,
  tm117_11 2148,
  tm117_12 2148,
  tm117_13 2148]
theorem s117_2148_ok : smsB mc117 117 call0 s117_2148 = true := by decide +kernel
def s117_2152 : List Sm := [tm117_9 2152,
  tm117_10 2152,
  tm117_11 2152,
  tm117_12 2152,
  tm117_13 2152]
theorem s117_2152_ok : smsB mc117 117 call0 s117_2152 = true := by decide +kernel
def s117_2156 : List Sm := [tm117_9 2156,
  tm117_10 2156,
  tm117_11 2156,
  tm117_12 2156,
  tm117_13 2156]
theorem s117_2156_ok : smsB mc117 117 call0 s117_2156 = true := by decide +kernel
def s117_2160 : List Sm := [tm117_9 2160,
  tm117_10 2160,
  tm117_11 2160,
  tm117_12 2160,
  tm117_13 2160]
theorem s117_2160_ok : smsB mc117 117 call0 s117_2160 = true := by decide +kernel
def s117_2164 : List Sm := [tm117_9 2164,
  tm117_10 2164,
  tm117_11 2164,
  tm117_12 2164,
  tm117_13 2164]
theorem s117_2164_ok : smsB mc117 117 call0 s117_2164 = true := by decide +kernel
end Go.Ev.X
end
