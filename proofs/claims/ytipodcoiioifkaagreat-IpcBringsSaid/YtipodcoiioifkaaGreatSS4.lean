/-
  What functions do to a memory, of words that are symbols.
-/
import Derived.Test.YtipodcoiioifkaaGreatSD0
set_option linter.unusedSimpArgs false
set_option linter.unusedVariables false
set_option maxRecDepth 100000
noncomputable section
namespace Go.Ev.X
open Go Go.Ev
def s10_2116 : List Sm := [tm10_8 2116]
theorem s10_2116_ok : smsB mc10 10 call0 s10_2116 = true := by decide +kernel
def s10_2120 : List Sm := [tm10_8 2120]
theorem s10_2120_ok : smsB mc10 10 call0 s10_2120 = true := by decide +kernel
def s10_2124 : List Sm := [tm10_1 2124,
  tm10_2 2124,
  tm10_3 2124,
  tm10_4 2124,
  tm10_5 2124,
  tm10_6 2124]
theorem s10_2124_ok : smsB mc10 10 call0 s10_2124 = true := by decide +kernel
def s10_2128 : List Sm := [tm10_1 2128,
  tm10_2 2128,
  tm10_3 2128,
  tm10_4 2128,
  tm10_5 2128,
  tm10_6 2128]
theorem s10_2128_ok : smsB mc10 10 call0 s10_2128 = true := by decide +kernel
def s10_2132 : List Sm := [tm10_1 2132,
  tm10_2 2132,
  tm10_3 2132,
  tm10_4 2132,
  tm10_5 2132,
  tm10_6 2132]
theorem s10_2132_ok : smsB mc10 10 call0 s10_2132 = true := by decide +kernel
def s10_2136 : List Sm := [tm10_1 2136,
  tm10_2 2136,
  tm10_3 2136,
  tm10_4 2136,
  tm10_5 2136,
  tm10_6 2136]
theorem s10_2136_ok : smsB mc10 10 call0 s10_2136 = true := by decide +kernel
def s10_2140 : List Sm := [tm10_1 2140,
  tm10_2 2140,
  tm10_3 2140,
  tm10_4 2140,
  tm10_5 2140,
  tm10_6 2140]
theorem s10_2140_ok : smsB mc10 10 call0 s10_2140 = true := by decide +kernel
def s10_2144 : List Sm := [tm10_1 2144,
  tm10_2 2144,
  tm10_3 2144,
  tm10_4 2144,
  tm10_5 2144,
  tm10_6 2144]
theorem s10_2144_ok : smsB mc10 10 call0 s10_2144 = true := by decide +kernel
def s10_2148 : List Sm := [tm10_1 2148,
  tm10_2 2148,
  tm10_3 2148,
  tm10_4 2148,
  tm10_5 2148,
  tm10_6 2148]
theorem s10_2148_ok : smsB mc10 10 call0 s10_2148 = true := by decide +kernel
def s10_2152 : List Sm := [tm10_1 2152,
  tm10_2 2152,
  tm10_3 2152,
  tm10_4 2152,
  tm10_5 2152,
  tm10_6 2152]
theorem s10_2152_ok : smsB mc10 10 call0 s10_2152 = true := by decide +kernel
def s10_2156 : List Sm := [tm10_1 2156,
  tm10_2 2156,
  tm10_3 2156,
  tm10_4 2156,
  tm10_5 2156,
  tm10_6 2156]
theorem s10_2156_ok : smsB mc10 10 call0 s10_2156 = true := by decide +kernel
def s10_2160 : List Sm := [tm10_1 2160,
  tm10_2 2160,
  tm10_3 2160,
  tm10_4 2160,
  tm10_5 2160,
  tm10_6 2160]
theorem s10_2160_ok : smsB mc10 10 call0 s10_2160 = true := by decide +kernel
end Go.Ev.X
end
