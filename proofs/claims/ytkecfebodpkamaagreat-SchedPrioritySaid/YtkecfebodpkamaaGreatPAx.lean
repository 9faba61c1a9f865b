/-
 Laws that do what a list says and then more: several ends, each with a table of its own.
-/
import Derived.Test.YtkecfebodpkamaaGreatSPx
import Derived.Test.YtkecfebodpkamaaGreatSL
set_option linter.unusedSimpArgs false
set_option linter.unusedVariables false
set_option maxRecDepth 100000
noncomputable section
namespace Go.Ev.X
open Go Go.Ev Go.Proofs
variable {E : Env} {f f' : Nat → Int}
structure EndE (E : Env) (f : Nat → Int) (a b : Int) (vs : Nat → Int) (rows : Nat → Row) : Prop where
 i : ∀ i, 300 ≤ i → i < 100000 → E.i i = vs i
 x : E.i 20 = a
 y : E.i 21 = b
 p : WordsIs (E.s 100).cs 8192 f
 r : WordsIs (E.s 200).cs 8192 f
 s : ∀ q, 101 ≤ q → q < 200 → E.s q = rows q
def InvB (B a b : Int) (n : Nat) (EO : Nat → Env → Prop) (m j : Nat) (E : Env) : Prop := E.i 1 = (E.s 0).len ∧ (∃ D, RowA (E.s 0) D) ∧ 0 ≤ E.i 2 ∧ (m : Int) + E.i 2 = B ∧ E.i 20 = a ∧ E.i 21 = b ∧
 ((1 ≤ j ∧ j ≤ 10 ∧ Live j E ∧ E.i 2 < E.i 1 ∧ E.i 2 < B) ∨ (11 ≤ j ∧ j < 11 + n ∧ EO (j - 11) E ∧ ¬ (E.i 2 < E.i 1 ∧ E.i 2 < B)))
def Ends (n : Nat) (a b : Int) (EO : Nat → Env → Prop) : Prop := ∀ f, OkW f → ∃ e vs rows, e < n ∧ ∀ E, EndE E f a b vs rows → EO e E
def stB (fr : List (Ky × V)) (j : Nat) : GS := ⟨fr, hA (bif Nat.ble j 10 then j else 0)⟩
def nxB (n : Nat) (σ : Sg) : List (Nat × Sg) := (rng (10 + n)).map fun j => (j + 1, σ)
theorem mem_nxB {n : Nat} {σ : Sg} {j : Nat} (h1 : 1 ≤ j) (h2 : j < 11 + n) : (j, σ) ∈ nxB n σ := by
 unfold nxB
 refine List.mem_map.2 ⟨j - 1, mem_rngF (by omega) (by omega), ?_⟩
 rw [show j - 1 + 1 = j from by omega]
theorem leadB {fr : List (Ky × V)} {σ : Sg} {rp rr : Nat} {B a b : Int} {n m : Nat} {EO : Nat → Env → Prop} (hends : Ends n a b EO) (hf : OkW f) (hp : WordsIs (E.s rp).cs 8192 f) (hr : WordsIs (E.s rr).cs 8192 f) (g1 : σ 1 = some (.v 1)) {s2 : SE} (g2 : σ 2 = some s2) {x : Int} (hx : s2.den E = x) (hx0 : 0 ≤ x) (hxB : x ≤ B)
  (ga : σ 20 = some (.v 20)) (gb : σ 21 = some (.v 21)) (ha : E.i 20 = a) (hb : E.i 21 = b) (n3 : σ 3 = none) (n4 : σ 4 = none) (n7 : σ 7 = none) (nf : ∀ i, 300 ≤ i → i < 100000 → σ i = none) (gp : σ 100100 = some (.lit (.ofNat rp))) (gr : σ 100200 = some (.lit (.ofNat rr)))
  (nr : ∀ q, 101 ≤ q → q ≠ 200 → σ (100000 + q) = none) (hlen : E.i 1 = (E.s 0).len) {D : Nat → Int × Int × Int} (hD : RowA (E.s 0) D) (hm : B - x < m) : Leads (stB fr) (InvB B a b n EO) E (nxB n σ) m := by
 intro _
 have key : ∀ (vs : Nat → Int) (rows : Nat → Row), ∃ E', TrE σ E E' ∧ E'.i 1 = E.i 1 ∧ E'.i 2 = x ∧ E'.i 20 = a ∧ E'.i 21 = b ∧ E'.s 0 = { E.s 0 with idx := x.toNat } ∧ WordsIs (E'.s 100).cs 8192 f ∧ WordsIs (E'.s 200).cs 8192 f ∧ (∀ i, σ i = none → E'.i i = vs i) ∧ ∀ q, 101 ≤ q → q ≠ 200 → E'.s q = rows q := by
  intro vs rows
  have t := nxA_tr σ E x vs rows
  refine ⟨nxA σ E x vs rows, t, t.i 1 _ g1, (t.i 2 _ g2).trans hx, (t.i 20 _ ga).trans ha, (t.i 21 _ gb).trans hb, rfl, ?_, ?_, fun i hi => by simp [nxA, hi], fun q h1 h2 => ?_⟩
  ·rw [nxA_s]
   unfold nxS
   rw [if_neg (by omega), show 100000 + 100 = 100100 from rfl, gp]; exact hp
  ·rw [nxA_s]
   unfold nxS
   rw [if_neg (by omega), show 100000 + 200 = 100200 from rfl, gr]; exact hr
  ·rw [nxA_s]
   unfold nxS
   rw [if_neg (by omega), nr q h1 h2]
 by_cases hk : x < (E.s 0).len ∧ x < B
 ·obtain ⟨c0, c1, c2, r0, r1, r2⟩ := hD.c x.toNat (by omega)
  obtain ⟨j, f', kp, kr, j1, j2, hall⟩ := choose hf r0 r1 r2
  obtain ⟨E', t, e1, e2, ea, eb, e0, hp', hr', hv, hs⟩ := key (vsA (D x.toNat).1 (D x.toNat).2.1 (D x.toNat).2.2 (pickI (D x.toNat).2.1 4) kp kr) (fun _ => rowF 8192 f')
  have hE : EnvA E' f f' (D x.toNat).1 (D x.toNat).2.1 (D x.toNat).2.2 kp kr := ⟨(hv 3 n3).trans rfl, (hv 4 n4).trans rfl, (hv 7 n7).trans rfl, (hv 300 (nf 300 (by omega) (by omega))).trans rfl, (hv 310 (nf 310 (by omega) (by omega))).trans rfl, (hv 311 (nf 311 (by omega) (by omega))).trans rfl,
   hp', by rw [hs 101 (by omega) (by omega)]; exact rowF_is _ _, hr', by rw [hs 201 (by omega) (by omega)]; exact rowF_is _ _⟩
  have hD' : RowA (E'.s 0) D := by rw [e0]; exact hD.idx _
  have hl' : (E'.s 0).len = (E.s 0).len := by rw [e0]
  have hi' : (E'.s 0).idx = x.toNat := by rw [e0]
  have hrow := rng_ok hA_row (j - 1) (by omega)
  rw [show j - 1 + 1 = j from by omega] at hrow
  have hst : (stB fr j).h = hA j := by
   show hA (bif Nat.ble j 10 then j else 0) = hA j
   have : Nat.ble j 10 = true := by rw [Nat.ble_eq]; exact j2
   rw [this]; rfl
  refine ⟨j, σ, (B - x).toNat, E', mem_nxB j1 (by omega), by omega, ⟨by rw [e1, hl']; exact hlen, ⟨D, hD'⟩, by omega, by omega, ea, eb, .inl ⟨j1, j2, hall E' hE, by omega, by omega⟩⟩, t, ?_⟩
  rw [hst]
  exact row3_ok hrow (by rw [e2, hi']; omega) (by rw [hi', hl']; omega) hD' (by rw [hi']; exact hE.i3) (by rw [hi']; exact hE.i4) (by rw [hi']; exact hE.i7)
 ·obtain ⟨e, vs, rows, he, hall⟩ := hends f hf
  obtain ⟨E', t, e1, e2, ea, eb, e0, hp', hr', hv, hs⟩ := key vs rows
  have hD' : RowA (E'.s 0) D := by rw [e0]; exact hD.idx _
  have hl' : (E'.s 0).len = (E.s 0).len := by rw [e0]
  have hst : (stB fr (11 + e)).h = hA 0 := by
   show hA (bif Nat.ble (11 + e) 10 then 11 + e else 0) = hA 0
   have : Nat.ble (11 + e) 10 = false := by rw [Bool.eq_false_iff, ne_eq, Nat.ble_eq]; omega
   rw [this]; rfl
  refine ⟨11 + e, σ, (B - x).toNat, E', mem_nxB (by omega) (by omega), by omega, ⟨by rw [e1, hl']; exact hlen, ⟨D, hD'⟩, by omega, by omega, ea, eb, .inr ⟨by omega, by omega, ?_, fun h => hk ⟨by omega, by omega⟩⟩⟩, t, ?_⟩
  ·rw [show 11 + e - 11 = e from by omega]
   exact hall E' ⟨fun i h1 h2 => hv i (nf i h1 h2), ea, eb, hp', hr', fun q h1 h2 => hs q h1 (by omega)⟩
  ·rw [hst]; exact rowU_ok hA_end
end Go.Ev.X
end
/-
 SchedPriority: its runs.
-/
set_option linter.unusedSimpArgs false
set_option linter.unusedVariables false
set_option maxRecDepth 100000
noncomputable section
namespace Go.Ev.X
open Go Go.Ev Go.Proofs
def qx6 : CutX := ⟨(.seqR (.ops [.op (some k6) none (.mov (.c (.b false)))]) (.seqR (.ops [.call (some k21) none (.c (.fn 8 [] [])) [], .op (some k7) none (.mov (.s k21))]) (.seqR (.ops [.call (some k22) none (.c (.fn 9 [] [])) [], .op (some k8) none (.mov (.s k22))]) (.seqR (.seq (.ops [.op (some k23) none (.mov (.s k8)), .op (some k24) none (.bin .eql .ptr (.s k23) (.c .nil))]) (.cond k24 (.seq (.ops [.op (some k6) none (.mov (.c (.b false)))]) .ret) .skip)) (.seqL (.seqR (.ops [.op (some k9) none (.mov (.c (.i .i64 0)))]) (.block 0 .hole)) (.seq (.ops [.op (some k41) none (.mov (.s k1)), .call (some k42) none (.c (.fn 10 [] [])) [(.s k41)], .op (some k10) none (.mov (.s k42))]) (.seq (.ops [.op (some k43) none (.mov (.s k8)), .op (some k44) none (.nilc (.s k43)), .op (some k45) none (.fad 0 (.s k44)), .op (some k46) none (.ld (.s k45)), .call (some k47) none (.c (.fn 15 [] [])) [(.s k46)], .op (some k11) none (.mov (.s k47))]) (.seq (.ops [.op (some k49) none (.mov (.s k8)), .op (some k50) none (.nilc (.s k49)), .op (some k51) none (.fad 0 (.s k50)), .op (some k52) none (.ld (.s k51)), .op (some k53) none (.mov (.s k10)), .call (some k54) none (.c (.fn 18 [] [])) [(.s k52), (.s k53)], .op (some k48) none (.mov (.s k54)), .op (some k55) none (.ext (.s k48) 0), .op (some k56) none (.ext (.s k48) 1), .op (some k12) none (.new 40 [(.i .i64 0), (.i .i64 0), (.i .i64 0), (.b false), (.i .i64 0), (.i .i64 0), (.i .i64 0), (.i .i64 0), (.b false), (.b false), (.i .i64 0), (.i .i64 0), (.i .i64 0), (.i .i64 0), (.i .u64 0), (.i .u64 0), (.i .u64 0), (.i .u64 0), (.i .u64 0), (.i .u64 0), (.i .u64 0), (.i .u64 0), (.i .u64 0), (.i .u64 0), (.i .u64 0), (.i .u64 0), (.i .u64 0), (.i .u64 0), (.i .u64 0), (.i .u64 0)]), .op none none (.st 30 (.s k12) (.s k55)), .op (some k13) none (.mov (.s k56))]) (.seq (.ops [.op (some k57) none (.mov (.s k8)), .op (some k58) none (.nilc (.s k57)), .op (some k59) none (.fad 0 (.s k58)), .op (some k60) none (.ld (.s k59)), .op (some k61) none (.mov (.s k10)), .op (some k62) none (.mov (.s k2)), .call (some k63) none (.c (.fn 11 [] [])) [(.s k60), (.s k61), (.s k62)], .op (some k14) none (.mov (.s k63))]) (.seq (.seq (.ops [.op (some k64) none (.mov (.s k2)), .op (some k65) none (.bin .lss .num (.s k64) (.c (.i .i64 0))), .op (some k66) none (.mov (.s k65)), .op (some k67) (some (k66, false)) (.mov (.s k2)), .op (some k68) (some (k66, false)) (.bin .gtr .num (.s k67) (.c (.i .i64 255))), .op (some k69) none (.pick (.s k66) (.c (.b true)) (.s k68))]) (.cond k69 (.seq (.ops [.op (some k70) none (.mov (.s k7)), .op (some k71) none (.mov (.s k70)), .op (some k72) (some (k71, true)) (.mov (.s k14)), .op (some k73) (some (k71, true)) (.bin .eql .num (.s k72) (.c (.i .i64 1))), .op (some k74) none (.pick (.s k71) (.s k73) (.c (.b false))), .op (some k6) none (.mov (.s k74))]) .ret) .skip)) (.seq (.ops [.op (some k76) none (.mov (.s k8)), .op (some k77) none (.nilc (.s k76)), .op (some k78) none (.fad 0 (.s k77)), .op (some k79) none (.ld (.s k78)), .op (some k80) none (.mov (.s k10)), .call (some k81) none (.c (.fn 18 [] [])) [(.s k79), (.s k80)], .op (some k75) none (.mov (.s k81)), .op (some k82) none (.ext (.s k75) 0), .op (some k83) none (.ext (.s k75) 1), .op (some k15) none (.new 40 [(.i .i64 0), (.i .i64 0), (.i .i64 0), (.b false), (.i .i64 0), (.i .i64 0), (.i .i64 0), (.i .i64 0), (.b false), (.b false), (.i .i64 0), (.i .i64 0), (.i .i64 0), (.i .i64 0), (.i .u64 0), (.i .u64 0), (.i .u64 0), (.i .u64 0), (.i .u64 0), (.i .u64 0), (.i .u64 0), (.i .u64 0), (.i .u64 0), (.i .u64 0), (.i .u64 0), (.i .u64 0), (.i .u64 0), (.i .u64 0), (.i .u64 0), (.i .u64 0)]), .op none none (.st 30 (.s k15) (.s k82)), .op (some k16) none (.mov (.s k83))]) (.seq (.ops [.op (some k85) none (.mov (.s k8)), .op (some k86) none (.nilc (.s k85)), .op (some k87) none (.fad 0 (.s k86)), .op (some k88) none (.ld (.s k87)), .op (some k89) none (.mov (.s k2)), .call (some k90) none (.c (.fn 20 [] [])) [(.s k88), (.s k89)], .op (some k84) none (.mov (.s k90)), .op (some k91) none (.ext (.s k84) 0), .op (some k92) none (.ext (.s k84) 1), .op (some k17) none (.mov (.s k91)), .op (some k18) none (.mov (.s k92))]) (.seq (.ops [.op (some k93) none (.mov (.s k8)), .op (some k94) none (.nilc (.s k93)), .op (some k95) none (.fad 0 (.s k94)), .op (some k96) none (.ld (.s k95)), .call (some k97) none (.c (.fn 15 [] [])) [(.s k96)], .op (some k19) none (.mov (.s k97))]) (.seq (.ops [.op (some k98) none (.mov (.s k17)), .op (some k99) none (.lens (.s k98)), .op (some k100) none (.bin .gtr .num (.s k99) (.c (.i .i64 0))), .op (some k101) none (.mov (.s k100)), .op (some k102) (some (k101, true)) (.mov (.s k17)), .op (some k103) (some (k101, true)) (.mov (.s k17)), .op (some k104) (some (k101, true)) (.lens (.s k103)), .op (some k105) (some (k101, true)) (.bin .sub .num (.s k104) (.c (.i .i64 1))), .op (some k106) (some (k101, true)) (.ixs 1 (.s k102) (.s k105)), .op (some k107) (some (k101, true)) (.ld (.s k106)), .op (some k108) (some (k101, true)) (.mov (.s k10)), .op (some k109) (some (k101, true)) (.bin .eql .num (.s k107) (.s k108)), .op (some k110) none (.pick (.s k101) (.s k109) (.c (.b false))), .op (some k20) none (.mov (.s k110))]) (.seq (.ops [.op (some k111) none (.mov (.s k7)), .op (some k112) none (.mov (.s k111)), .op (some k113) (some (k112, true)) (.mov (.s k14)), .op (some k114) (some (k112, true)) (.bin .eql .num (.s k113) (.c (.i .i64 0))), .op (some k115) none (.pick (.s k112) (.s k114) (.c (.b false))), .op (some k116) none (.mov (.s k115)), .op (some k117) (some (k116, true)) (.mov (.s k16)), .op (some k118) (some (k116, true)) (.bin .eql .num (.s k117) (.c (.i .i64 0))), .op (some k119) none (.pick (.s k116) (.s k118) (.c (.b false))), .op (some k120) none (.mov (.s k119)), .op (some k121) (some (k120, true)) (.mov (.s k18)), .op (some k122) (some (k120, true)) (.bin .eql .num (.s k121) (.c (.i .i64 0))), .op (some k123) none (.pick (.s k120) (.s k122) (.c (.b false))), .op (some k124) none (.mov (.s k123)), .op (some k125) (some (k124, true)) (.mov (.s k19)), .op (some k126) (some (k124, true)) (.mov (.s k11)), .op (some k127) (some (k124, true)) (.bin .eql .num (.s k125) (.s k126)), .op (some k128) none (.pick (.s k124) (.s k127) (.c (.b false))), .op (some k129) none (.mov (.s k128)), .op (some k130) (some (k129, true)) (.fad 1 (.s k15)), .op (some k131) (some (k129, true)) (.ld (.s k130)), .op (some k132) (some (k129, true)) (.mov (.s k2)), .op (some k133) (some (k129, true)) (.bin .eql .num (.s k131) (.s k132)), .op (some k134) none (.pick (.s k129) (.s k133) (.c (.b false))), .op (some k135) none (.mov (.s k134)), .op (some k136) (some (k135, true)) (.fad 0 (.s k15)), .op (some k137) (some (k135, true)) (.ld (.s k136)), .op (some k138) (some (k135, true)) (.fad 0 (.s k12)), .op (some k139) (some (k135, true)) (.ld (.s k138)), .op (some k140) (some (k135, true)) (.bin .eql .num (.s k137) (.s k139)), .op (some k141) none (.pick (.s k135) (.s k140) (.c (.b false))), .op (some k142) none (.mov (.s k141)), .op (some k143) (some (k142, true)) (.fad 2 (.s k15)), .op (some k144) (some (k142, true)) (.ld (.s k143)), .op (some k145) (some (k142, true)) (.fad 2 (.s k12)), .op (some k146) (some (k142, true)) (.ld (.s k145)), .op (some k147) (some (k142, true)) (.bin .eql .num (.s k144) (.s k146)), .op (some k148) none (.pick (.s k142) (.s k147) (.c (.b false))), .op (some k149) none (.mov (.s k148)), .op (some k150) (some (k149, true)) (.fad 3 (.s k15)), .op (some k151) (some (k149, true)) (.ld (.s k150)), .op (some k152) (some (k149, true)) (.fad 3 (.s k12)), .op (some k153) (some (k149, true)) (.ld (.s k152)), .op (some k154) (some (k149, true)) (.bin .eql .bool (.s k151) (.s k153)), .op (some k155) none (.pick (.s k149) (.s k154) (.c (.b false))), .op (some k156) none (.mov (.s k155)), .op (some k157) (some (k156, true)) (.fad 3 (.s k15)), .op (some k158) (some (k156, true)) (.ld (.s k157)), .op (some k159) (some (k156, true)) (.mov (.s k20)), .op (some k160) (some (k156, true)) (.bin .eql .bool (.s k158) (.s k159)), .op (some k161) none (.pick (.s k156) (.s k160) (.c (.b false))), .op (some k6) none (.mov (.s k161))]) .ret))))))))))))))), (.seq (.seq (.ops [.op (some k25) none (.mov (.s k9)), .op (some k26) none (.mov (.s k0)), .op (some k27) none (.lens (.s k26)), .op (some k28) none (.bin .lss .num (.s k25) (.s k27)), .op (some k29) none (.mov (.s k28)), .op (some k30) (some (k29, true)) (.mov (.s k9)), .op (some k31) (some (k29, true)) (.bin .lss .num (.s k30) (.c (.i .i64 100))), .op (some k32) none (.pick (.s k29) (.s k31) (.c (.b false)))]) (.cond k32 .skip (.exit 0))) (.seq (.block 1 (.ops [.op (some k35) none (.mov (.s k8)), .op (some k36) none (.mov (.s k0)), .op (some k37) none (.mov (.s k9)), .op (some k38) none (.ixs 3 (.s k36) (.s k37)), .op (some k39) none (.ldn 3 (.s k38)), .call (some k40) none (.c (.fn 19 [] [])) [(.s k35), (.s k39)]])) (.ops [.op (some k33) none (.mov (.s k9)), .op (some k34) none (.bin .add .num (.s k33) (.c (.i .i64 1))), .op (some k9) none (.mov (.s k34))]))), [.tmp k6]⟩
def sgK (j : Nat) : Sg := sgL [(1, .v 1), (2, .op .add .i64 (.v 2) (.lit 1)), (5, s5A j), (6, s6A j), (20, .v 20), (21, .v 21), (100100, .lit (.ofNat (rpA j))), (100200, .lit (.ofNat (rrA j)))]
def sgK0 : Sg := sgL [(1, .v 1), (2, .lit 0), (5, .lit 0), (6, .lit 677), (20, .v 20), (21, .v 21), (100100, .lit 100), (100200, .lit 200)]
def frP : List (Ky × V) := [(k0, .fs q1 0), (k1, .si .i64 (.v 20)), (k2, .si .i64 (.v 21)), (k7, .b true), (k8, .ptr q1379 0), (k9, .si .i64 (.v 2))]
def symP : Nat → SE
 | 0 => .v 450
 | i + 1 => .v (805 + 40 * i)
def thrP (n i : Nat) : Ent := ⟨18, [.si .i64 (symP i)], 106 + i, .tup [tA (800 + 40 * i) (sv (800 + 40 * i)) (sv (801 + 40 * i)) (sv (802 + 40 * i)) (tv (803 + 40 * i)) (sv (804 + 40 * i)) (bif Nat.beq (i + 1) n then .i .i64 0 else sv (805 + 40 * i)) (sv (806 + 40 * i)) (sv (807 + 40 * i)) (tv (808 + 40 * i)) (tv (809 + 40 * i)) (sv (810 + 40 * i)) (sv (811 + 40 * i)) (sv (812 + 40 * i)) (sv (813 + 40 * i)), .i .i64 0], .v (325 + i)⟩
def esW (n : Nat) : List Ent := [⟨15, [], 101, .si .i64 (.v 400), .v 320⟩, ⟨18, [.si .i64 TE], 102, .tup [tD 500, .i .i64 0], .v 321⟩, ⟨11, [.si .i64 TE, .si .i64 (.v 21)], 103, .i .i64 0, .v 322⟩,
 ⟨18, [.si .i64 TE], 104, .tup [tA 600 (sv 500) (.si .i64 (.v 21)) (sv 502) (tv 503) (sv 604) (sv 605) (sv 606) (sv 607) (tv 608) (tv 609) (sv 610) (sv 611) (sv 612) (sv 613), .i .i64 0], .v 323⟩,
 ⟨16, [.si .i64 (.v 21)], 105, bif Nat.beq n 0 then .i .i64 0 else .si .i64 (.v 450), .v 324⟩] ++ ((rng n).map (thrP n) ++ [⟨15, [], 106 + n + 1, .si .i64 (.v 400), .v (325 + n)⟩])
def esN : List Ent := [⟨15, [], 101, .si .i64 (.v 400), .v 320⟩, ⟨18, [.si .i64 TE], 102, .tup [tD 500, .i .i64 0], .v 321⟩]
def pT : PEnt := ⟨27, [.si .i64 (.v 20), .i .i64 4], .si .i64 (.v 300)⟩
def fS : List (SB × Bool) := [(.cmp .eql (.v 500) (.v 500), true), (.cmp .eql (.v 502) (.v 502), true), (.cmp .eql (.v 21) (.v 21), true), (.cmp .eql (.v 400) (.v 400), true), (.cmp .lss (.v 21) (.lit 0), false), (.cmp .geq (.v 21) (.lit 256), false), (.cmp .gtr (.v 21) (.lit 255), false)]
def nE (e : Nat) : Nat := bif Nat.ble 6 e then Nat.sub e 5 else Nat.sub e 2
def fE (e : Nat) : List (SB × Bool) := match e with
 | 0 => [(.cmp .lss (.v 21) (.lit 0), true)]
 | 1 => [(.cmp .lss (.v 21) (.lit 0), false), (.cmp .geq (.v 21) (.lit 256), true), (.cmp .gtr (.v 21) (.lit 255), true)]
 | e => (.cmp .eql (.v 503) (.lit 1), Nat.ble 6 e) :: (.cmp .eql (symP (Nat.pred (nE e))) TE, Nat.ble 6 e) :: ((rng (nE e)).map (fun i => (.cmp .neq (symP i) (.lit 0), true)) ++ fS)
def cxE (e : Nat) : Cx := cxM cx0 cP 100 (bif Nat.ble 2 e then esW (nE e) else esN) [pT]
def outP (e : Nat) (b : Bool) : Nat := runJ (stB frP) qx6.x qx6.z (koB qx6.rs) ⟨callT (cxE e) 20, 6, 20000⟩ (11 + e) ⟨fO 100 b ++ fE e, []⟩ []
def goP (j : Nat) : Nat := runJ (stB frP) qx6.x qx6.z (koB qx6.rs) ⟨callT (cxA j) 20, 6, 20000⟩ j ⟨fG 100 j, []⟩ (nxB 10 (sgK j))
theorem qc6 : cutX (tyOf Tryz.prog) (fun _ => none) Tryz.f6 = some qx6 := by kernel_rfl
theorem wq6 : drawF (fun _ => none) Tryz.f6 = true := by kernel_rfl
theorem goP_ok : allB (fun j => Nat.beq (goP (j + 1)) 0) (rng 10) = true := by decide +kernel
theorem outP_ok : allB (fun e => Nat.beq (outP e true) 0 && Nat.beq (outP e false) 0) (rng 10) = true := by decide +kernel
def hInP : H := ⟨q2, q2, (PT.e : PT O).set q1 (.row 0 3 (.v 1) (.v 2) [])⟩
def inB : CallT := asRow 9 q2 (.arr 37 8192 13 (.i .u64 0) abt0) (.oa 37 200 8192 13 .nil) (asRow 9 q1377 (.arr 37 8192 13 (.i .u64 0) abt0) (.oa 37 100 8192 13 .nil) (memoS gb (callAx call1)))
theorem inP_ok : initFr [.fs q1 0, .si .i64 (.v 20), .si .i64 (.v 21)] (fun fr => zIn qx6.z ⟨inB, 6, 20000⟩ fr hInP ⟨[], []⟩ (fun fr h _ => nextK (stB frP) (nxB 10 sgK0) fr h) (koB qx6.rs)) = 0 := by decide +kernel
end Go.Ev.X
end
/-
 Laws that do what a list says and then more: the law.
-/
set_option linter.unusedSimpArgs false
set_option linter.unusedVariables false
set_option maxRecDepth 100000
noncomputable section
namespace Go.Ev.X
open Go Go.Ev Go.Proofs
variable {E : Env}
theorem sgL_cut {l : List (Nat × SE)} {i : Nat} (h : ∀ p ∈ l, i ≠ p.1) : sgL l i = none := by
 induction l with
 | nil => rfl
 | cons p r ih =>
  obtain ⟨a, s⟩ := p
  have e : Nat.beq i a = false := by
   rw [Bool.eq_false_iff]; simpa using h (a, s) (by simp)
  show bc (Nat.beq i a) (some s) (sgL r i) = none
  rw [e]
  exact ih fun p hp => h p (by simp [hp])
theorem sgK_cut {j i : Nat} (a1 : i ≠ 1) (a2 : i ≠ 2) (a3 : i ≠ 5) (a4 : i ≠ 6) (a5 : i ≠ 20) (a6 : i ≠ 21) (a7 : i ≠ 100100) (a8 : i ≠ 100200) : sgK j i = none ∧ sgK0 i = none := by
 constructor <;> refine sgL_cut fun p hp => ?_ <;> simp only [List.mem_cons, List.not_mem_nil, or_false] at hp <;> rcases hp with rfl | rfl | rfl | rfl | rfl | rfl | rfl | rfl <;> assumption
theorem sgK_lead {fr : List (Ky × V)} {B a b : Int} {n m j : Nat} {EO : Nat → Env → Prop} (hends : Ends n a b EO) (hB : B < 4611686018427387904) (hlen : E.i 1 = (E.s 0).len) {D : Nat → Int × Int × Int} (hD : RowA (E.s 0) D) (h20 : 0 ≤ E.i 2) (hm : (m : Int) + E.i 2 = B) (ha : E.i 20 = a) (hb : E.i 21 = b) (hl : Live j E) (hk : E.i 2 < B) :
  Leads (stB fr) (InvB B a b n EO) E (nxB n (sgK j)) m := by
 obtain ⟨_, _, _, _, f', hok, hp, hr⟩ := hl
 refine leadB (x := E.i 2 + 1) (s2 := .op .add .i64 (.v 2) (.lit 1)) hends hok hp hr rfl rfl ?_ (by omega) (by omega) rfl rfl ha hb (sgK_cut (by omega) (by omega) (by omega) (by omega) (by omega) (by omega) (by omega) (by omega)).1 (sgK_cut (by omega) (by omega) (by omega) (by omega) (by omega) (by omega) (by omega) (by omega)).1 (sgK_cut (by omega) (by omega) (by omega) (by omega) (by omega) (by omega) (by omega) (by omega)).1
  (fun i h1 h2 => (sgK_cut (by omega) (by omega) (by omega) (by omega) (by omega) (by omega) (by omega) (by omega)).1) rfl rfl (fun q h1 h2 => (sgK_cut (by omega) (by omega) (by omega) (by omega) (by omega) (by omega) (by omega) (by omega)).1) hlen hD (by omega)
 show wrapF .i64 (E.i 2 + 1) = _
 rw [wrapF_eq, IntKind.wrap_i64]; omega
theorem sgK0_lead {fr : List (Ky × V)} {B a b : Int} {n m : Nat} {EO : Nat → Env → Prop} (hends : Ends n a b EO) (h1 : WordsIs (E.s 100).cs 8192 f0) (h2 : WordsIs (E.s 200).cs 8192 f0) (hlen : E.i 1 = (E.s 0).len) {D : Nat → Int × Int × Int} (hD : RowA (E.s 0) D) (ha : E.i 20 = a) (hb : E.i 21 = b) (hB : 0 ≤ B) (hm : B < m) :
  Leads (stB fr) (InvB B a b n EO) E (nxB n sgK0) m := by
 exact leadB (x := 0) (s2 := .lit 0) hends okw0 h1 h2 rfl rfl rfl (Int.le_refl 0) hB rfl rfl ha hb rfl rfl rfl (fun i h1 h2 => (sgK_cut (j := 0) (by omega) (by omega) (by omega) (by omega) (by omega) (by omega) (by omega) (by omega)).2) rfl rfl (fun q h1 h2 => (sgK_cut (j := 0) (by omega) (by omega) (by omega) (by omega) (by omega) (by omega) (by omega) (by omega)).2) hlen hD (by omega)
theorem fs_app {l m : List (SB × Bool)} (h1 : FsOk E l) (h2 : FsOk E m) : FsOk E (l ++ m) := by
 induction l with
 | nil => exact h2
 | cons p r ih =>
  obtain ⟨c, b⟩ := p
  exact ⟨h1.1, ih h1.2⟩
theorem ends_law {F : Nat} {f : Func} {q : CutX} {dr : Nat → Option Dr} (hfn : PP.funcs[F]? = some f) (hc : cutX (tyOf PP) dr f = some q) (hw : drawF dr f = true) {fr : List (Ky × V)} {B a b : Int} (hB : 0 ≤ B ∧ B < 4611686018427387904) {n : Nat} {EO : Nat → Env → Prop} (hends : Ends n a b EO) {cx : Nat → Cx} {fe : Nat → List (SB × Bool)}
  (hcx : ∀ e E, EO e E → CxOk E PP (tyOf PP) (cx e)) (hfe : ∀ e E, EO e E → FsOk E (fe e))
  (go : ∀ j, j < 10 → runJ (stB fr) q.x q.z (koB q.rs) ⟨callT (cxA (j + 1)) 20, F, 20000⟩ (j + 1) ⟨fG B (j + 1), []⟩ (nxB n (sgK (j + 1))) = 0)
  (out : ∀ e bb, e < n → runJ (stB fr) q.x q.z (koB q.rs) ⟨callT (cx e) 20, F, 20000⟩ (11 + e) ⟨fO B bb ++ fe e, []⟩ [] = 0) {l : List V} (hl : bdL 2 l)
  (hin : initFr l (fun fr' => zIn q.z ⟨inB, F, 20000⟩ fr' hInP ⟨[], []⟩ (fun fr' h _ => nextK (stB fr) (nxB n sgK0) fr' h) (koB q.rs)) = 0)
  {r : Row} {D : Nat → Int × Int × Int} (hD : RowA r D) {W : World} (hW : W.heap[r.b]? = some (.cells r.cs r.t r.fz)) {args : Array Value}
  (hargs : ∀ E : Env, E.s 0 = r → E.i 20 = a → E.i 21 = b → (γL E (rhoA r) l).toArray = args) :
  Calls PP F args W fun e w' => e = .returned (.bool true) ∧ RowKit.Below W.heap.size W w' := by
 obtain ⟨E, hE⟩ : ∃ E : Env, E = ⟨fun i => if i = 20 then a else if i = 21 then b else r.len, fun _ => false, fun q => if q = 0 then r else rowF 8192 f0⟩ := ⟨_, rfl⟩
 have s0 : E.s 0 = r := by rw [hE]; rfl
 have i1 : E.i 1 = r.len := by rw [hE]; rfl
 have ia : E.i 20 = a := by rw [hE]; rfl
 have ib : E.i 21 = b := by rw [hE]; rfl
 have p0 : WordsIs (E.s 100).cs 8192 f0 := by rw [hE]; exact rowF_is _ _
 have r0 : WordsIs (E.s 200).cs 8192 f0 := by rw [hE]; exact rowF_is _ _
 have b1 : ∀ {j : Nat}, j ≤ 10 → Nat.ble j 10 = true := fun h => by rw [Nat.ble_eq]; exact h
 have b2 : ∀ {j : Nat}, 11 ≤ j → Nat.ble j 10 = false := fun {j} h => by rw [Bool.eq_false_iff, ne_eq, Nat.ble_eq]; omega
 have := cut_law tyOk_tyOf mixedX hfn hc hw (st := stB fr) (gj := fun j => ⟨callT (bif Nat.ble j 10 then cxA j else cx (j - 11)) 20, F, 20000⟩) (Inv := InvB B a b n EO) (fun m j E h => ?_) (fun m j E hI => ?_) (E := E) (g0 := ⟨inB, F, 20000⟩) (inA_ok call1 (call1_ok (lenAll E)) p0 r0) FaOk.nil (B.toNat + 1)
  (sgK0_lead hends p0 r0 (by rw [s0]; exact i1) (by rw [s0]; exact hD) ia ib hB.1 (by omega)) hin (hIn_sat (by rw [s0]; exact hW) (by rw [s0]; exact hD.esz) (by rw [s0]; exact i1)) hl (fun p o hp _ hlo => ?_)
 ·rw [s0, hargs E s0 ia ib] at this
  exact this
 ·obtain ⟨_, _, _, _, _, _, h | h⟩ := h
  ·show CallOk E PP (callT (bif Nat.ble j 10 then cxA j else cx (j - 11)) 20)
   rw [b1 h.2.1]; exact callT_run (cxA_ok h.2.2.1) 20
  ·show CallOk E PP (callT (bif Nat.ble j 10 then cxA j else cx (j - 11)) 20)
   rw [b2 h.1]; exact callT_run (hcx _ _ h.2.2.1) 20
 ·obtain ⟨hlen, ⟨D', hD'⟩, h20, hm, ha, hb, h | h⟩ := hI
  ·obtain ⟨j1, j2, hlv, k1, k2⟩ := h
   refine ⟨⟨fG B j, []⟩, nxB n (sgK j), fG_ok hlv k1 k2, ?_, sgK_lead hends hB.2 hlen hD' h20 hm ha hb hlv k2⟩
   have := go (j - 1) (by omega)
   rw [show j - 1 + 1 = j from by omega] at this
   show runJ _ _ _ _ ⟨callT (bif Nat.ble j 10 then cxA j else cx (j - 11)) 20, F, 20000⟩ _ _ _ = 0
   rw [b1 j2]; exact this
  ·obtain ⟨j1, j2, heo, hu⟩ := h
   have key : ∀ bb, FsOk E (fO B bb) → ∃ fa nx, FaOk E fa ∧ runJ (stB fr) q.x q.z (koB q.rs) ⟨callT (bif Nat.ble j 10 then cxA j else cx (j - 11)) 20, F, 20000⟩ j fa nx = 0 ∧ Leads (stB fr) (InvB B a b n EO) E nx m := fun bb hbb => by
    have := out (j - 11) bb (by omega)
    rw [show 11 + (j - 11) = j from by omega] at this
    refine ⟨⟨fO B bb ++ fe (j - 11), []⟩, [], fa_list (fs_app hbb (hfe _ _ heo)) trivial, ?_, fun h => absurd rfl h⟩
    rw [b2 j1]; exact this
   by_cases h : E.i 2 < E.i 1
   ·exact key true (show FsOk E (fO B true) from ⟨f_lt h, f_ltn (show B ≤ E.i 2 by omega), trivial⟩)
   ·exact key false (show FsOk E (fO B false) from ⟨f_ltn (show E.i 1 ≤ E.i 2 by omega), trivial⟩)
 ·have hp : ((PT.e : PT O).set .h (.row 0 3 (.v 1) (.v 2) [])).get p = some o := hp
  have hlo : 2 ≤ p.toNat := hlo
  by_cases e : p = .h
  ·subst e
   have : (Ev.P.h : Ev.P).toNat = 1 := rfl
   omega
  ·rw [PT.get_set_other _ _ _ _ (fun h => e h.symm), PT.get_e] at hp
   cases hp
end Go.Ev.X
end
/-
 SchedPriority: what is asked of its ends: threads told by symbols, who waits, how many.
-/
set_option linter.unusedSimpArgs false
set_option linter.unusedVariables false
set_option maxRecDepth 100000
noncomputable section
namespace Go.Ev.X
open Go Go.Ev Go.Proofs
variable {E : Env} {f : Nat → Int}
theorem tA_ok {ρ : Rho} {b : Nat} {x0 x1 x2 x3 x4 x5 x6 x7 x8 x9 x10 x11 x12 x13 : V} {v : TV} {r : Nat → Int} (h0 : x0.γ E ρ = .int .i64 v.st) (h1 : x1.γ E ρ = .int .i64 v.pr) (h2 : x2.γ E ρ = .int .i64 v.sl) (h3 : x3.γ E ρ = .bool v.q) (h4 : x4.γ E ρ = .int .i64 v.pv) (h5 : x5.γ E ρ = .int .i64 v.nx) (h6 : x6.γ E ρ = .int .i64 v.bl) (h7 : x7.γ E ρ = .int .i64 v.bd) (h8 : x8.γ E ρ = .bool v.g) (h9 : x9.γ E ρ = .bool v.c) (h10 : x10.γ E ρ = .int .i64 v.bo) (h11 : x11.γ E ρ = .int .i64 v.ha) (h12 : x12.γ E ρ = .int .i64 v.fk) (h13 : x13.γ E ρ = .int .i64 v.fa)
  (hr : ∀ j, j < 30 → E.i (b + j) = fldT v r j) : (tA b x0 x1 x2 x3 x4 x5 x6 x7 x8 x9 x10 x11 x12 x13).γ E ρ = thV v r :=
 thG h0 h1 h2 h3 h4 h5 h6 h7 h8 h9 h10 h11 h12 h13 (vsi (hr 14 (by omega))) (vsi (hr 15 (by omega))) (vsi (hr 16 (by omega))) (vsi (hr 17 (by omega))) (vsi (hr 18 (by omega))) (vsi (hr 19 (by omega))) (vsi (hr 20 (by omega))) (vsi (hr 21 (by omega))) (vsi (hr 22 (by omega))) (vsi (hr 23 (by omega))) (vsi (hr 24 (by omega))) (vsi (hr 25 (by omega))) (vsi (hr 26 (by omega))) (vsi (hr 27 (by omega))) (vsi (hr 28 (by omega))) (vsi (hr 29 (by omega)))
theorem tD_ok {ρ : Rho} {b : Nat} {v : TV} {r : Nat → Int} (hr : ∀ j, j < 30 → E.i (b + j) = fldT v r j) : (tD b).γ E ρ = thV v r :=
 tA_ok (vsi (hr 0 (by omega))) (vsi (hr 1 (by omega))) (vsi (hr 2 (by omega))) (vsb (sbq (hr 3 (by omega)))) (vsi (hr 4 (by omega))) (vsi (hr 5 (by omega))) (vsi (hr 6 (by omega))) (vsi (hr 7 (by omega))) (vsb (sbq (hr 8 (by omega)))) (vsb (sbq (hr 9 (by omega)))) (vsi (hr 10 (by omega))) (vsi (hr 11 (by omega))) (vsi (hr 12 (by omega))) (vsi (hr 13 (by omega))) hr
theorem lk_nx : ∀ {L : List Nat} {p i : Nat}, Lk f p L 0 → i < L.length → (getT f (L.getD i 0)).nx = (L.getD (i + 1) 0 : Nat)
 | [], p, i, h, hi => by simp at hi
 | t :: r, p, 0, h, hi => by
  obtain ⟨_, h2, _⟩ := h
  show (getT f t).nx = _
  rw [h2]
  cases r <;> rfl
 | t :: r, p, i + 1, h, hi => by
  have := lk_nx (i := i) h.2.2 (by simpa using hi)
  simpa using this
theorem len_le : ∀ {S L : List Nat}, L.Nodup → (∀ x ∈ L, x ∈ S) → L.length ≤ S.length
 | [], L, hn, h => by
  cases L with
  | nil => simp
  | cons a r => exact absurd (h a (by simp)) (by simp)
 | s :: S, L, hn, h => by
  by_cases hs : s ∈ L
  ·obtain ⟨a, b, rfl⟩ := List.append_of_mem hs
   obtain ⟨na, nb, nab⟩ := List.nodup_append.1 hn
   have nb' := List.nodup_cons.1 nb
   have hab : (a ++ b).Nodup := List.nodup_append.2 ⟨na, nb'.2, fun x hx y hy => nab x hx y (by simp [hy])⟩
   have := len_le (S := S) hab fun x hx => by
    have hx' : x ∈ a ++ s :: b := by
     rcases List.mem_append.1 hx with h1 | h1
     ·simp [h1]
     ·simp [h1]
    rcases List.mem_cons.1 (h x hx') with rfl | h2
    ·rcases List.mem_append.1 hx with h1 | h1
     ·exact absurd rfl (nab x h1 x (by simp))
     ·exact absurd h1 nb'.1
    ·exact h2
   simp at this ⊢; omega
  ·have := len_le (S := S) hn fun x hx => by
    rcases List.mem_cons.1 (h x hx) with rfl | h2
    ·exact absurd hx hs
    ·exact h2
   simp; omega
theorem len4 {L : List Nat} (hn : L.Nodup) (h : ∀ x ∈ L, TT x) : L.length ≤ 4 := len_le (S := thrL) hn fun x hx => TT_mem (h x hx)
theorem len3 {L : List Nat} {t : Nat} (hn : L.Nodup) (h : ∀ x ∈ L, TT x) (ht : TT t) (htn : t ∉ L) : L.length ≤ 3 := by
 have := len4 (L := t :: L) (List.nodup_cons.2 ⟨htn, hn⟩) fun x hx => by
  rcases List.mem_cons.1 hx with rfl | hx
  ·exact ht
  ·exact h x hx
 simp at this; omega
end Go.Ev.X
end
/-
 SchedPriority: how things stand behind a new priority; those who wait.
-/
set_option linter.unusedSimpArgs false
set_option linter.unusedVariables false
set_option maxRecDepth 100000
noncomputable section
namespace Go.Ev.X
open Go Go.Ev Go.Proofs
variable {E : Env} {f : Nat → Int} {Q : Nat → List Nat} {P : Nat → TV} {c t : Nat}
theorem pr_after (s : SS TT f Q P c) (ht : TT t) {p : Int} (hp : 0 ≤ p ∧ p < 256) : ∃ Q', SS TT (prF f t p) Q' (setTh P t { P t with pr := p }) c ∧ (getT (prF f t p) t).st = (getT f t).st ∧ (getT (prF f t p) t).pr = p ∧ (getT (prF f t p) t).sl = (getT f t).sl ∧ (getT (prF f t p) t).q = (getT f t).q ∧
  ((getT f t).q = true → ∃ a, Q' p.toNat = a ++ [t]) ∧ ((getT f t).q = false → t ∉ Q' p.toNat) := by
 have hp2 : p.toNat < 256 := by omega
 cases hq : (getT f t).q with
 | false =>
  have s' := prA_S TT_thr s ht hq hp
  have hno : t ∉ Q p.toNat := fun hm => by
   have := (s.q.el _ t hp2 hm).2.2
   rw [hq] at this; cases this
  refine ⟨_, s', ?_, ?_, ?_, ?_, (fun h => by cases h), fun _ => hno⟩
  ·rw [s'.st ht, setTh_same, s.st ht]
  ·rw [s'.pr ht, setTh_same]
  ·rw [s'.sl ht, setTh_same, s.sl ht]
  ·cases h : (getT (prF f t p) t).q with
   | false => rfl
   | true =>
    have := s'.q.off t ht h
    rw [s'.pr ht, setTh_same] at this
    exact absurd this hno
 | true =>
  have s' := prB_S TT_thr s ht hq hp
  have hm : t ∈ setP (dropQ Q t) p.toNat (dropQ Q t p.toNat ++ [t]) p.toNat := by rw [setP_same]; simp
  refine ⟨_, s', ?_, ?_, ?_, ?_, (fun _ => ⟨dropQ Q t p.toNat, setP_same _ _ _⟩), fun h => by cases h⟩
  ·rw [s'.st ht, setTh_same, s.st ht]
  ·rw [s'.pr ht, setTh_same]
  ·rw [s'.sl ht, setTh_same, s.sl ht]
  ·exact (s'.q.el _ t hp2 hm).2.2
theorem symP_den {L : List Nat} (h0 : E.i 450 = (L.getD 0 0 : Nat)) (hs : ∀ i j, i < 5 → j < 30 → E.i (800 + 40 * i + j) = fldT (getT f (L.getD i 0)) (regs f (L.getD i 0)) j) (hlk : Lk f 0 L 0) : ∀ {i : Nat}, i < 5 → i < L.length → (symP i).den E = (L.getD i 0 : Nat)
 | 0, _, _ => h0
 | i + 1, h1, h2 => by
  have := hs i 5 (by omega) (by omega)
  show E.i (805 + 40 * i) = _
  rw [show 805 + 40 * i = 800 + 40 * i + 5 from by omega, this]
  exact lk_nx hlk (by omega)
theorem thr_ents {L : List Nat} (hL : ∀ x ∈ L, TT x) (hq : ∀ x ∈ L, RightAt f x) (hn : L.length ≤ 4) (hrow : ∀ q, 103 ≤ q → q < 200 → WordsIs (E.s q).cs 8192 f) (h0 : E.i 450 = (L.getD 0 0 : Nat)) (hs : ∀ i j, i < 5 → j < 30 → E.i (800 + 40 * i + j) = fldT (getT f (L.getD i 0)) (regs f (L.getD i 0)) j) (hlk : Lk f 0 L 0)
  (hk : ∀ i, i < 5 → E.i (325 + i) = if i < L.length then (20 : Int) else E.i (325 + i)) {last : Ent} (hlast : EntOk PP cP E (105 + L.length) last) : ∀ (m i : Nat), i + m = L.length → EntsOk PP cP E (105 + i) ((rngF i m).map (thrP L.length) ++ [last])
 | 0, i, h => by
  have h : i = L.length := by omega
  subst h
  exact ⟨hlast, trivial⟩
 | m + 1, i, h => by
  have hi : i < L.length := by omega
  have hmem : L.getD i 0 ∈ L := by
   rw [List.getD_eq_getElem?_getD, List.getElem?_eq_getElem hi]
   exact List.getElem_mem _
  have hsd := symP_den h0 hs hlk (i := i) (by omega) hi
  have hfl : ∀ j, j < 30 → E.i (800 + j + 40 * i) = fldT (getT f (L.getD i 0)) (regs f (L.getD i 0)) j := fun j hj => by
   rw [show 800 + j + 40 * i = 800 + 40 * i + j from by omega]; exact hs i j (by omega) hj
  refine ⟨?_, thr_ents hL hq hn hrow h0 hs hlk hk hlast m (i + 1) (by omega)⟩
  refine ent_g (k := 20) (hrow _ (by omega) (by omega)) (hrow _ (show 103 ≤ 106 + i by omega) (show 106 + i < 200 by omega)) (thr_p (hL _ hmem) (hq _ hmem)) (by omega) ?_ (fun ρ => arg1 (vsi hsd)) (fun ρ => tupT (tA_ok (vsi (hfl 0 (by omega))) (vsi (hfl 1 (by omega))) (vsi (hfl 2 (by omega))) (vsb (sbq (hfl 3 (by omega)))) (vsi (hfl 4 (by omega))) ?_ (vsi (hfl 6 (by omega))) (vsi (hfl 7 (by omega))) (vsb (sbq (hfl 8 (by omega)))) (vsb (sbq (hfl 9 (by omega)))) (vsi (hfl 10 (by omega))) (vsi (hfl 11 (by omega))) (vsi (hfl 12 (by omega))) (vsi (hfl 13 (by omega))) (fun j hj => hs i j (by omega) hj)))
  ·show E.i (325 + i) = _
   rw [hk i (by omega), if_pos hi]; rfl
  ·have := lk_nx hlk hi
   by_cases e : i + 1 = L.length
   ·rw [show Nat.beq (i + 1) L.length = true by simpa using e]
    show Value.int .i64 0 = _
    rw [this, List.getD_eq_getElem?_getD, List.getElem?_eq_none (by omega)]; rfl
   ·rw [show Nat.beq (i + 1) L.length = false by rw [Bool.eq_false_iff]; simpa using e]
    exact vsi (hfl 5 (by omega))
end Go.Ev.X
end
/-
 SchedPriority: for each state of the words an end that fits.
-/
set_option linter.unusedSimpArgs false
set_option linter.unusedVariables false
set_option maxRecDepth 100000
noncomputable section
namespace Go.Ev.X
open Go Go.Ev Go.Proofs
variable {E : Env} {f : Nat → Int}
def EOp (e : Nat) (E : Env) : Prop := EntsOk PP cP E 100 (bif Nat.ble 2 e then esW (nE e) else esN) ∧ PsOk PP E [pT] ∧ FsOk E (fE e)
theorem pT_ok {a : Int} (ha : I64 a) (h20 : E.i 20 = a) (h3 : E.i 300 = pickI a 4) : PEntOk PP E pT :=
 ⟨trivial, Tryz.call27, fun ρ w => by
  have := pick_c (P := PP) (fun _ => rowF 0 (fun _ => 0)) (fun E _ => hC0 E) (fun E _ => noC) pk4_0 pk4_1 ha w
  refine (show Calls PP 27 (γL E ρ [.si .i64 (.v 20), .i .i64 4]).toArray w _ from ?_)
  have hargs : (γL E ρ [.si .i64 (.v 20), .i .i64 4]).toArray = #[.int .i64 a, .int .i64 4] := by simp only [γL, V.γ, SE.den, h20]
  rw [hargs]
  refine this.mono ?_
  rintro ex w' ⟨rfl, hb⟩
  refine ⟨?_, hb⟩
  simp only [pT, V.γ, SE.den, h3]⟩
theorem TE_den2 {a : Int} (h : E.i 300 = pickI a 4) : TE.den E = ((thrN a : Nat) : Int) := by
 have := pickI_lt (c := a) (n := 4) (by omega)
 show wrapF .i64 (1024 + wrapF .i64 (64 * E.i 300)) = _
 rw [h, wrapF_eq, wrapF_eq, IntKind.wrap_i64, IntKind.wrap_i64]
 unfold thrN
 omega
def vsP (a : Int) (c : Nat) (f f' : Nat → Int) (t : Nat) (L : List Nat) (k0 k2 k4 k5 : Nat) (i : Nat) : Int :=
 if i = 300 then pickI a 4
 else if i = 320 then k0
 else if i = 321 then 20
 else if i = 322 then k2
 else if i = 323 then 20
 else if i = 324 then k4
 else if i < 400 then (if i - 325 < L.length then 20 else k5)
 else if i = 400 then c
 else if i = 450 then (L.getD 0 0 : Nat)
 else if i < 600 then fldT (getT f t) (regs f t) (i - 500)
 else if i < 800 then fldT (getT f' t) (regs f' t) (i - 600)
 else fldT (getT f' (L.getD ((i - 800) / 40) 0)) (regs f' (L.getD ((i - 800) / 40) 0)) ((i - 800) % 40)
def rowsP (f f' : Nat → Int) (q : Nat) : Row := if q < 103 then rowF 8192 f else rowF 8192 f'
theorem ends_bad {a b : Int} (ha : I64 a) (hf : OkW f) {e : Nat} (he : e < 2) (hfe : ∀ E : Env, E.i 21 = b → FsOk E (fE e)) : ∃ e vs rows, e < 10 ∧ ∀ E, EndE E f a b vs rows → EOp e E := by
 obtain ⟨Q, P, c, s, hs⟩ := hf
 have ht := thrN_tt a
 obtain ⟨k0, p0, c0⟩ := cur_p s.ct s.cur
 have c1 := thr_p ht (s.q.thr _ ht)
 refine ⟨e, vsP a c f f (thrN a) [] k0 0 0 0, rowsP f f, by omega, fun E h => ⟨?_, ⟨pT_ok ha h.x ((h.i 300 (by omega) (by omega)).trans rfl), trivial⟩, hfe E h.y⟩⟩
 have hb : (bif Nat.ble 2 e then esW (nE e) else esN) = esN := by
  have : Nat.ble 2 e = false := by rw [Bool.eq_false_iff, ne_eq, Nat.ble_eq]; omega
  rw [this]; rfl
 rw [hb]
 have r1 : ∀ q, 101 ≤ q → q < 103 → WordsIs (E.s q).cs 8192 f := fun q h1 h2 => by
  rw [h.s q h1 (by omega)]; unfold rowsP; rw [if_pos h2]; exact rowF_is _ _
 exact ⟨ent_g h.p (r1 101 (by omega) (by omega)) c0 p0 ((h.i 320 (by omega) (by omega)).trans rfl) (fun ρ => rfl) (fun ρ => vsi ((h.i 400 (by omega) (by omega)).trans rfl)),
  ent_g (r1 101 (by omega) (by omega)) (r1 102 (by omega) (by omega)) c1 (by omega) ((h.i 321 (by omega) (by omega)).trans rfl) (fun ρ => arg1 (vsi (TE_den2 ((h.i 300 (by omega) (by omega)).trans rfl)))) (fun ρ => tupT (tD_ok fun j hj => by
   rw [h.i (500 + j) (by omega) (by omega)]
   unfold vsP
   repeat rw [if_neg (by omega)]
   rw [if_pos (by omega), show 500 + j - 500 = j from by omega])), trivial⟩
theorem vs_lo {a : Int} {c : Nat} {f f' : Nat → Int} {t : Nat} {L : List Nat} {k0 k2 k4 k5 i : Nat} (h : i < 5) : vsP a c f f' t L k0 k2 k4 k5 (325 + i) = if i < L.length then (20 : Int) else (k5 : Int) := by
 unfold vsP
 rw [if_neg (by omega), if_neg (by omega), if_neg (by omega), if_neg (by omega), if_neg (by omega), if_neg (by omega), if_pos (by omega), show 325 + i - 325 = i from by omega]
theorem vs_5 {a : Int} {c : Nat} {f f' : Nat → Int} {t : Nat} {L : List Nat} {k0 k2 k4 k5 j : Nat} (h : j < 30) : vsP a c f f' t L k0 k2 k4 k5 (500 + j) = fldT (getT f t) (regs f t) j := by
 unfold vsP
 rw [if_neg (by omega), if_neg (by omega), if_neg (by omega), if_neg (by omega), if_neg (by omega), if_neg (by omega), if_neg (by omega), if_neg (by omega), if_neg (by omega), if_pos (by omega), show 500 + j - 500 = j from by omega]
theorem vs_6 {a : Int} {c : Nat} {f f' : Nat → Int} {t : Nat} {L : List Nat} {k0 k2 k4 k5 j : Nat} (h : j < 30) : vsP a c f f' t L k0 k2 k4 k5 (600 + j) = fldT (getT f' t) (regs f' t) j := by
 unfold vsP
 rw [if_neg (by omega), if_neg (by omega), if_neg (by omega), if_neg (by omega), if_neg (by omega), if_neg (by omega), if_neg (by omega), if_neg (by omega), if_neg (by omega), if_neg (by omega), if_pos (by omega), show 600 + j - 600 = j from by omega]
theorem vs_8 {a : Int} {c : Nat} {f f' : Nat → Int} {t : Nat} {L : List Nat} {k0 k2 k4 k5 i j : Nat} (h : j < 30) : vsP a c f f' t L k0 k2 k4 k5 (800 + 40 * i + j) = fldT (getT f' (L.getD i 0)) (regs f' (L.getD i 0)) j := by
 unfold vsP
 rw [if_neg (by omega), if_neg (by omega), if_neg (by omega), if_neg (by omega), if_neg (by omega), if_neg (by omega), if_neg (by omega), if_neg (by omega), if_neg (by omega), if_neg (by omega), if_neg (by omega), show (800 + 40 * i + j - 800) / 40 = i from by omega, show (800 + 40 * i + j - 800) % 40 = j from by omega]
theorem neq_map {L : List Nat} (hz : ∀ i, i < 5 → i < L.length → (symP i).den E = (L.getD i 0 : Nat)) (hne : ∀ x ∈ L, x ≠ 0) (h4 : L.length ≤ 4) : ∀ (m i : Nat), i + m ≤ L.length → FsOk E ((rngF i m).map (fun i => ((.cmp .neq (symP i) (.lit 0) : SB), true)))
 | 0, i, h => trivial
 | m + 1, i, h => ⟨f_ne (by
   rw [hz i (by omega) (by omega)]
   have hm : L.getD i 0 ∈ L := by
    rw [List.getD_eq_getElem?_getD, List.getElem?_eq_getElem (by omega)]
    exact List.getElem_mem _
   have := hne _ hm
   show ((L.getD i 0 : Nat) : Int) ≠ 0
   omega), neq_map hz hne h4 m (i + 1) (by omega)⟩
theorem fE_form {e : Nat} (h : 2 ≤ e) : fE e = (.cmp .eql (.v 503) (.lit 1), Nat.ble 6 e) :: (.cmp .eql (symP (Nat.pred (nE e))) TE, Nat.ble 6 e) :: ((rng (nE e)).map (fun i => ((.cmp .neq (symP i) (.lit 0) : SB), true)) ++ fS) := by
 match e, h with
 | e + 2, _ => rfl
theorem fE_ok {e t : Nat} {L : List Nat} {b : Int} (he : 2 ≤ e) (hn : nE e = L.length) (h4 : L.length ≤ 4) (hne : ∀ x ∈ L, x ≠ 0) (hb : 0 ≤ b ∧ b < 256) (hz : ∀ i, i < 5 → i < L.length → (symP i).den E = (L.getD i 0 : Nat)) (hT : TE.den E = (t : Int)) (h21 : E.i 21 = b) {q : Bool} (hq : Nat.ble 6 e = q) (h5 : E.i 503 = b2 q)
  (hlast : ((symP (Nat.pred L.length)).den E = (t : Int)) ↔ q = true) : FsOk E (fE e) := by
 rw [fE_form he, hn, hq]
 refine ⟨sbq h5, ?_, fs_app (neq_map hz hne h4 L.length 0 (by omega)) ⟨f_eq rfl, f_eq rfl, f_eq rfl, f_eq rfl, f_ltn (show 0 ≤ E.i 21 by omega), f_gen (show E.i 21 < 256 by omega), f_gtn (show E.i 21 ≤ 255 by omega), trivial⟩⟩
 cases q with
 | true => exact f_eq (by rw [hT]; exact hlast.2 rfl)
 | false => exact f_eqn (fun h => by rw [hT] at h; exact absurd (hlast.1 h) (by simp))
theorem ends_good {a b : Int} (ha : I64 a) (hb : 0 ≤ b ∧ b < 256) (hf : OkW f) : ∃ e vs rows, e < 10 ∧ ∀ E, EndE E f a b vs rows → EOp e E := by
 obtain ⟨Q, P, c, s, hs⟩ := hf
 have ht := thrN_tt a
 obtain ⟨t, htt⟩ : ∃ t, t = thrN a := ⟨_, rfl⟩
 rw [← htt] at ht
 obtain ⟨k0, p0, c0⟩ := cur_p s.ct s.cur
 have c1 := thr_p ht (s.q.thr _ ht)
 obtain ⟨k2, p2, c2⟩ := pr_cp s ht hb
 obtain ⟨Q', s', e1, e2, e3, e4, e5, e6⟩ := pr_after s ht hb
 generalize prF f t b = f' at *
 have c3 := thr_p ht (s'.q.thr _ ht)
 have hp : b.toNat < 256 := by omega
 have hbN : ((b.toNat : Nat) : Int) = b := by omega
 obtain ⟨k4, p4, c4⟩ := fronts_p hp (q_w64 TT_thr s'.q hp).1
 rw [headOf_eq TT_thr s'.q hp, hbN] at c4
 obtain ⟨k5, p5, c5⟩ := cur_p s'.ct s'.cur
 have hel := fun u hu => s'.q.el b.toNat u hp hu
 have hnd := s'.q.nd b.toNat hp
 have hlk := s'.q.lk b.toNat hp
 generalize hL : Q' b.toNat = L at *
 have hTT : ∀ x ∈ L, TT x := fun x hx => (hel x hx).1
 have h4 := len4 hnd hTT
 have hhd : hdN L 0 = L.getD 0 0 := by cases L <;> rfl
 have key : ∀ e, 2 ≤ e → e < 10 → nE e = L.length → (∀ E : Env, (∀ i, i < 5 → i < L.length → (symP i).den E = (L.getD i 0 : Nat)) → E.i 450 = (L.getD 0 0 : Nat) → TE.den E = (t : Int) → E.i 503 = b2 (getT f t).q → E.i 21 = b → FsOk E (fE e)) → ∃ e vs rows, e < 10 ∧ ∀ E, EndE E f a b vs rows → EOp e E := by
  intro e he1 he2 hn hfe
  refine ⟨e, vsP a c f f' t L k0 k2 k4 k5, rowsP f f', he2, fun E h => ?_⟩
  have i300 : E.i 300 = pickI a 4 := (h.i 300 (by omega) (by omega)).trans rfl
  have hTE : TE.den E = (t : Int) := by rw [TE_den2 i300, htt]
  have r1 : ∀ q, 101 ≤ q → q < 103 → WordsIs (E.s q).cs 8192 f := fun q h1 h2 => by
   rw [h.s q h1 (by omega)]; unfold rowsP; rw [if_pos h2]; exact rowF_is _ _
  have r2 : ∀ q, 103 ≤ q → q < 200 → WordsIs (E.s q).cs 8192 f' := fun q h1 h2 => by
   rw [h.s q (by omega) h2]; unfold rowsP; rw [if_neg (by omega)]; exact rowF_is _ _
  have i450 : E.i 450 = (L.getD 0 0 : Nat) := (h.i 450 (by omega) (by omega)).trans rfl
  have i400 : E.i 400 = (c : Int) := (h.i 400 (by omega) (by omega)).trans rfl
  have h5 : ∀ j, j < 30 → E.i (500 + j) = fldT (getT f t) (regs f t) j := fun j hj => (h.i _ (by omega) (by omega)).trans (vs_5 hj)
  have h6 : ∀ j, j < 30 → E.i (600 + j) = fldT (getT f' t) (regs f' t) j := fun j hj => (h.i _ (by omega) (by omega)).trans (vs_6 hj)
  have h8 : ∀ i j, i < 5 → j < 30 → E.i (800 + 40 * i + j) = fldT (getT f' (L.getD i 0)) (regs f' (L.getD i 0)) j := fun i j hi hj => (h.i _ (by omega) (by omega)).trans (vs_8 hj)
  have hsy : ∀ i, i < 5 → i < L.length → (symP i).den E = (L.getD i 0 : Nat) := fun i h1 h2 => symP_den i450 h8 hlk h1 h2
  refine ⟨?_, ⟨pT_ok ha h.x i300, trivial⟩, hfe E hsy i450 hTE (h5 3 (by omega)) h.y⟩
  rw [show Nat.ble 2 e = true by rw [Nat.ble_eq]; exact he1]
  show EntsOk PP cP E 100 (esW (nE e))
  rw [hn]
  have hlast : EntOk PP cP E (105 + L.length) ⟨15, [], 106 + L.length + 1, .si .i64 (.v 400), .v (325 + L.length)⟩ :=
   ent_g (r2 _ (by omega) (by omega)) (r2 _ (show 103 ≤ 106 + L.length + 1 by omega) (show 106 + L.length + 1 < 200 by omega)) c5 p5 (by
    show E.i (325 + L.length) = _
    rw [h.i _ (by omega) (by omega), vs_lo (by omega), if_neg (by omega)]) (fun ρ => rfl) (fun ρ => vsi i400)
  have hth := thr_ents hTT (fun x hx => s'.q.thr x (hTT x hx)) h4 r2 i450 h8 hlk (fun i hi => by
   by_cases hl : i < L.length
   ·rw [if_pos hl, h.i _ (by omega) (by omega), vs_lo hi, if_pos hl]
   ·rw [if_neg hl]) hlast L.length 0 (by omega)
  exact ⟨ent_g h.p (r1 101 (by omega) (by omega)) c0 p0 ((h.i 320 (by omega) (by omega)).trans rfl) (fun ρ => rfl) (fun ρ => vsi i400),
   ent_g (r1 101 (by omega) (by omega)) (r1 102 (by omega) (by omega)) c1 (by omega) ((h.i 321 (by omega) (by omega)).trans rfl) (fun ρ => arg1 (vsi hTE)) (fun ρ => tupT (tD_ok h5)),
   ent_g (r1 102 (by omega) (by omega)) (r2 103 (by omega) (by omega)) c2 p2 ((h.i 322 (by omega) (by omega)).trans rfl) (fun ρ => arg2 (vsi hTE) (vsi h.y)) (fun ρ => rfl),
   ent_g (r2 103 (by omega) (by omega)) (r2 104 (by omega) (by omega)) c3 (by omega) ((h.i 323 (by omega) (by omega)).trans rfl) (fun ρ => arg1 (vsi hTE)) (fun ρ => tupT (tA_ok (vsi ((h5 0 (by omega)).trans e1.symm)) (vsi (h.y.trans e2.symm)) (vsi ((h5 2 (by omega)).trans e3.symm)) (vsb (sbq ((h5 3 (by omega)).trans (by rw [e4]; rfl)))) (vsi (h6 4 (by omega))) (vsi (h6 5 (by omega))) (vsi (h6 6 (by omega))) (vsi (h6 7 (by omega))) (vsb (sbq (h6 8 (by omega)))) (vsb (sbq (h6 9 (by omega)))) (vsi (h6 10 (by omega))) (vsi (h6 11 (by omega))) (vsi (h6 12 (by omega))) (vsi (h6 13 (by omega))) h6)),
   ent_g (r2 104 (by omega) (by omega)) (r2 105 (by omega) (by omega)) c4 p4 ((h.i 324 (by omega) (by omega)).trans rfl) (fun ρ => arg1 (vsi h.y)) (fun ρ => by
    rw [hhd]
    cases L with
    | nil => rfl
    | cons x r => exact vsi i450), hth⟩
 have hne : ∀ x ∈ L, x ≠ 0 := fun x hx => by have := TT_thr.lo x (hTT x hx); omega
 have htl := TT_thr.lo t ht
 have getm : ∀ i, i < L.length → L.getD i 0 ∈ L := fun i hi => by
  rw [List.getD_eq_getElem?_getD, List.getElem?_eq_getElem hi]
  exact List.getElem_mem _
 cases hq : (getT f t).q with
 | false =>
  have hno := e6 hq
  have h3 := len3 hnd hTT ht hno
  have hble : Nat.ble 6 (2 + L.length) = false := by rw [Bool.eq_false_iff, ne_eq, Nat.ble_eq]; omega
  have hn : nE (2 + L.length) = L.length := by
   unfold nE
   rw [hble]
   show 2 + L.length - 2 = _
   omega
  refine key (2 + L.length) (by omega) (by omega) hn fun E hz h450 hT h5 h21 => fE_ok (q := false) (by omega) hn h4 hne hb hz hT h21 hble (by rw [h5, hq]) ⟨fun h => ?_, fun h => (by cases h)⟩
  by_cases h0 : L.length = 0
  ·rw [h0] at h
   have h : E.i 450 = (t : Int) := h
   rw [h450, List.getD_eq_getElem?_getD, List.getElem?_eq_none (by omega)] at h
   have : ((0 : Nat) : Int) = (t : Int) := h
   omega
  ·rw [hz _ (by show L.length - 1 < 5; omega) (by show L.length - 1 < L.length; omega)] at h
   have hm := getm (L.length - 1) (by omega)
   have : L.getD (L.length - 1) 0 = t := by
    have h : ((L.getD (L.length - 1) 0 : Nat) : Int) = (t : Int) := h
    omega
   rw [this] at hm
   exact absurd hm hno
 | true =>
  obtain ⟨a', hal⟩ := e5 hq
  have hlen : L.length = a'.length + 1 := by rw [hal]; simp
  have hble : Nat.ble 6 (5 + L.length) = true := by rw [Nat.ble_eq]; omega
  have hn : nE (5 + L.length) = L.length := by
   unfold nE
   rw [hble]
   show 5 + L.length - 5 = _
   omega
  refine key (5 + L.length) (by omega) (by omega) hn fun E hz h450 hT h5 h21 => fE_ok (q := true) (by omega) hn h4 hne hb hz hT h21 hble (by rw [h5, hq]) ⟨fun h => rfl, fun _ => ?_⟩
  rw [hz _ (by show L.length - 1 < 5; omega) (by show L.length - 1 < L.length; omega)]
  show ((L.getD (L.length - 1) 0 : Nat) : Int) = t
  rw [hlen, Nat.add_sub_cancel, hal]
  simp [List.getD]
theorem ends_any {a b : Int} (ha : I64 a) : Ends 10 a b EOp := fun f hf => by
 by_cases n0 : b < 0
 ·exact ends_bad (e := 0) ha hf (by omega) fun E h => ⟨f_lt (show E.i 21 < 0 by omega), trivial⟩
 by_cases n1 : 255 < b
 ·exact ends_bad (e := 1) ha hf (by omega) fun E h => ⟨f_ltn (show 0 ≤ E.i 21 by omega), f_ge (show 256 ≤ E.i 21 by omega), f_gt (show 255 < E.i 21 by omega), trivial⟩
 exact ends_good ha (by omega) hf
end Go.Ev.X
end
/-
 SchedPriority: the law, of any acts, any thread, any priority.
-/
set_option linter.unusedSimpArgs false
set_option linter.unusedVariables false
set_option maxRecDepth 100000
noncomputable section
namespace Go.Ev.X
open Go Go.Ev Go.Proofs
variable {E : Env}
theorem outP_all : ∀ e bb, e < 10 → outP e bb = 0 := fun e bb h => by
 have := rng_ok outP_ok e h
 simp only [Bool.and_eq_true] at this
 match bb with
 | true => exact Nat.eq_of_beq_eq_true this.1
 | false => exact Nat.eq_of_beq_eq_true this.2
theorem goP_all : ∀ j, j < 10 → goP (j + 1) = 0 := fun j h => Nat.eq_of_beq_eq_true (rng_ok goP_ok j h)
theorem prio_any {a b : Int} (ha : I64 a) {r : Row} {D : Nat → Int × Int × Int} (hD : RowA r D) {W : World} (hW : W.heap[r.b]? = some (.cells r.cs r.t r.fz)) :
  Calls PP 6 #[.slice (some ⟨r.b, r.off, none⟩) r.len r.cap, .int .i64 a, .int .i64 b] W fun e w' => e = .returned (.bool true) ∧ RowKit.Below W.heap.size W w' :=
 ends_law Tryz.func6 qc6 wq6 (fr := frP) (B := 100) (by decide) (ends_any (b := b) ha) (cx := cxE) (fe := fE) (fun e E h => cxM_ok (hC0 E) h.1 (ps_list h.2.1)) (fun e E h => h.2.2) goP_all outP_all (l := [.fs q1 0, .si .i64 (.v 20), .si .i64 (.v 21)]) ⟨show (1 : Nat) < 2 by decide, trivial, trivial, trivial⟩ inP_ok hD hW fun E h0 h1 h2 => by
  simp only [γL, V.γ, SE.den, h0, h1, h2, rhoA]
end Go.Ev.X
end
/-
 SchedPriority: of no list at all.
-/
set_option linter.unusedSimpArgs false
set_option linter.unusedVariables false
set_option maxRecDepth 100000
noncomputable section
namespace Go.Ev.X
open Go Go.Ev Go.Proofs
variable {E : Env}
def inN (c : CallT) : CallT := asRow 9 q1 (.arr 37 8192 13 (.i .u64 0) abt0) (.oa 37 200 8192 13 .nil) (asRow 9 q1376 (.arr 37 8192 13 (.i .u64 0) abt0) (.oa 37 100 8192 13 .nil) (memoS ab (callAx c)))
theorem inN_ok {c : CallT} (hc : CallOk E PP c) (h1 : WordsIs (E.s 100).cs 8192 f0) (h2 : WordsIs (E.s 200).cs 8192 f0) : CallOk E PP (inN c) :=
 asRow_ok (asRow_ok (msS_ok rfl abt FaOk.nil (call1_ok (lenAll E)) (callAx_ok hc)) rfl (fun ρ L hp h => arr_row abt_u h1 ρ L hp h) (oaNil_bd _ _ _ _)) rfl (fun ρ L hp h => arr_row abt_u h2 ρ L hp h) (oaNil_bd _ _ _ _)
theorem nilP_ok : allB (fun e => Nat.beq (callS (cxE e) 0 (inN (callT (cxE e) 20)) 6 [.snil, .si .i64 (.v 20), .si .i64 (.v 21)] ⟨.h, .h, .e⟩ ⟨fE e, []⟩ (endV (.b true))) 0) (rng 10) = true := by decide +kernel
theorem prio_nil {a b : Int} (ha : I64 a) (W : World) : Calls PP 6 #[.slice none 0 0, .int .i64 a, .int .i64 b] W fun e w' => e = .returned (.bool true) ∧ RowKit.Below W.heap.size W w' := by
 obtain ⟨e, vs, rows, he, hall⟩ := ends_any (b := b) ha f0 okw0
 obtain ⟨E, hE⟩ : ∃ E : Env, E = ⟨fun i => if i = 20 then a else if i = 21 then b else vs i, fun _ => false, fun q => if q = 100 then rowF 8192 f0 else if q = 200 then rowF 8192 f0 else rows q⟩ := ⟨_, rfl⟩
 have h1 : WordsIs (E.s 100).cs 8192 f0 := by rw [hE]; exact rowF_is _ _
 have h2 : WordsIs (E.s 200).cs 8192 f0 := by rw [hE]; exact rowF_is _ _
 have eo := hall E ⟨fun i k1 k2 => by
   rw [hE]
   show (if i = 20 then a else if i = 21 then b else vs i) = vs i
   rw [if_neg (by omega), if_neg (by omega)], by rw [hE]; rfl, by rw [hE]; rfl, h1, h2, fun q k1 k2 => by
   rw [hE]
   show (if q = 100 then rowF 8192 f0 else if q = 200 then rowF 8192 f0 else rows q) = rows q
   rw [if_neg (by omega), if_neg (by omega)]⟩
 have hcx : CxOk E PP (tyOf PP) (cxE e) := cxM_ok (hC0 E) eo.1 (ps_list eo.2.1)
 have := val_of_run hcx (inN_ok (callT_run hcx 20) h1 h2) (fa_list (l := fE e) (r := []) eo.2.2 trivial) (Nat.eq_of_beq_eq_true (rng_ok nilP_ok e he)) (l := [.snil, .si .i64 (.v 20), .si .i64 (.v 21)]) ⟨trivial, trivial, trivial, trivial⟩ (fun _ => ⟨0, 0⟩) W
 have hargs : (γL E (fun _ => ⟨0, 0⟩) [.snil, .si .i64 (.v 20), .si .i64 (.v 21)]).toArray = #[.slice none 0 0, .int .i64 a, .int .i64 b] := by rw [hE]; rfl
 rw [hargs] at this
 exact this.mono fun e w' h => by
  obtain ⟨⟨ρ', h1⟩, h2⟩ := h
  exact ⟨h1, h2⟩
end Go.Ev.X
end
