/-
  KernelLines, as a claim without its card.
-/
import Derived.Test.YtligpkenodgfoaaGreatDoorRows
import Derived.Test.YtligpkenodgfoaaGreatDoorCards
import Derived.Test.YtligpkenodgfoaaGreatDoorTie
import Derived.Test.YtligpkenodgfoaaGreatDoorLen
import Derived.Test.YtligpkenodgfoaaGreatDoorHcB
import Derived.Test.YtligpkenodgfoaaGreatDoorHcC
import Derived.Test.YtligpkenodgfoaaGreatDoorLJ
import Derived.Test.YtligpkenodgfoaaGreatDoorLF
import Derived.Test.YtligpkenodgfoaaGreatDoorLB
import Derived.Test.YtligpkenodgfoaaGreatDoorLI0
import Derived.Test.YtligpkenodgfoaaGreatDoorLI1
import Derived.Test.YtligpkenodgfoaaGreatDoorLI2
import Derived.Test.YtligpkenodgfoaaGreatDoorLI3
import Derived.ProofKit
import Derived.OpenShut
import Derived.Deep.DeepHandedRow
import Derived.Lib.LaidTab
set_option linter.unusedSimpArgs false
set_option linter.unusedVariables false
noncomputable section
namespace Go.Proofs.YtligpkenodgfoaaGreatDoor
open Go Go.Ev Go.Ev.X Go.ChangeShapes Go.WideShapes Go.ChangeAt Go.RowKit
theorem chipNat {w : World} {b p m n : Nat} (hp : p < 65536) (hm : m < 65536) (hn : n < 4294967296) : ChipAt w b (BitVec.ofNat 16 p) (BitVec.ofNat 16 m) (BitVec.ofNat 32 n) ↔ w.heap[b]? = some (.cells #[.int .u16 (p : Int), .int .u16 (m : Int), .int .u32 (n : Int)] 132 (0, 0)) := by
  unfold ChipAt chipObj
  simp only [BitVec.toNat_ofNat, Nat.mod_eq_of_lt (show p < 2 ^ 16 by omega), Nat.mod_eq_of_lt (show m < 2 ^ 16 by omega), Nat.mod_eq_of_lt (show n < 2 ^ 32 by omega)]
theorem bitNat {i : Nat} (hi : i < 16) : bit (i : Int) = BitVec.ofNat 16 (2 ^ i) := by
  have h : (2 : Nat) ^ i < 2 ^ 16 := Nat.pow_lt_pow_right (by omega) hi
  apply BitVec.eq_of_toNat_eq
  rw [bit, if_pos ⟨by omega, by omega⟩, BitVec.toNat_shiftLeft, Int.toNat_natCast, Nat.shiftLeft_eq, show (1#16).toNat = 1 from rfl, Nat.one_mul, BitVec.toNat_ofNat]
theorem orNat {p q : Nat} (hp : p < 65536) (hq : q < 65536) : BitVec.ofNat 16 p ||| BitVec.ofNat 16 q = BitVec.ofNat 16 (Nat.lor p q) := by
  have h : p ||| q < 2 ^ 16 := Nat.or_lt_two_pow (by omega) (by omega)
  apply BitVec.eq_of_toNat_eq
  rw [BitVec.toNat_or, BitVec.toNat_ofNat, BitVec.toNat_ofNat, BitVec.toNat_ofNat, Nat.mod_eq_of_lt (by omega : p < 2 ^ 16), Nat.mod_eq_of_lt (by omega : q < 2 ^ 16)]
  exact (Nat.mod_eq_of_lt h).symm
theorem clrBit (x y : BitVec 16) : x &&& ~~~y = x ^^^ (x &&& y) := by
  apply BitVec.eq_of_getLsbD_eq
  intro i hi
  rw [BitVec.getLsbD_and, BitVec.getLsbD_not, BitVec.getLsbD_xor, BitVec.getLsbD_and]
  simp only [hi, decide_true, Bool.true_and]
  cases x.getLsbD i <;> cases y.getLsbD i <;> rfl
theorem clrNat {p q : Nat} (hp : p < 65536) (hq : q < 65536) : BitVec.ofNat 16 p &&& ~~~(BitVec.ofNat 16 q) = BitVec.ofNat 16 (Nat.xor p (Nat.land p q)) := by
  have h1 : p &&& q < 2 ^ 16 := Nat.and_lt_two_pow _ (by omega)
  have h : p ^^^ (p &&& q) < 2 ^ 16 := Nat.xor_lt_two_pow (by omega) h1
  rw [clrBit]
  apply BitVec.eq_of_toNat_eq
  rw [BitVec.toNat_xor, BitVec.toNat_and, BitVec.toNat_ofNat, BitVec.toNat_ofNat, BitVec.toNat_ofNat, Nat.mod_eq_of_lt (by omega : p < 2 ^ 16), Nat.mod_eq_of_lt (by omega : q < 2 ^ 16)]
  exact (Nat.mod_eq_of_lt h).symm
theorem lor_lt {p q : Nat} (hp : p < 65536) (hq : q < 65536) : Nat.lor p q < 65536 := Nat.or_lt_two_pow (n := 16) (by omega) (by omega)
theorem clr_lt {p q : Nat} (hp : p < 65536) (hq : q < 65536) : Nat.xor p (Nat.land p q) < 65536 := Nat.xor_lt_two_pow (n := 16) (by omega) (Nat.and_lt_two_pow (n := 16) _ (by omega))
theorem two_lt {i : Nat} (hi : i < 16) : 2 ^ i < 65536 := by
  have : (2 : Nat) ^ i < 2 ^ 16 := Nat.pow_lt_pow_right (by omega) hi
  omega
theorem raiseOk {E : Env} : CallOk E Tryz.prog (fun G l h fa k => bc (Nat.beq G 148) (raiseX l h fa k) 1) := by
  refine chip_ok (xs := []) Tryz.call148 (fun ρ => rfl) fun b p m c n w hp hm hc hn hb => ?_
  refine (raise_c b _ _ _ (n : Int) w ((chipNat hp hm hc).2 hb)).mono ?_
  rintro e w' ⟨he, hat, hk⟩
  rw [bitNat hn, orNat hp (two_lt hn)] at hat
  exact ⟨by rw [he, errOf, if_pos ⟨by omega, by omega⟩], (chipNat (lor_lt hp (two_lt hn)) hm hc).1 hat, hk.os, hk.tape, hk.output, hk.size, fun k hk1 hk2 => hk.block k hk1 (by simpa using hk2)⟩
theorem maskOk {E : Env} : CallOk E Tryz.prog (fun G l h fa k => bc (Nat.beq G 137) (maskX l h fa k) 1) := by
  refine chip_ok (xs := [.bool true]) Tryz.call137 (fun ρ => rfl) fun b p m c n w hp hm hc hn hb => ?_
  refine (mask_true_c b _ _ _ (n : Int) w ((chipNat hp hm hc).2 hb)).mono ?_
  rintro e w' ⟨he, hat, hk⟩
  rw [bitNat hn, orNat hm (two_lt hn)] at hat
  exact ⟨by rw [he, errOf, if_pos ⟨by omega, by omega⟩], (chipNat hp (lor_lt hm (two_lt hn)) hc).1 hat, hk.os, hk.tape, hk.output, hk.size, fun k hk1 hk2 => hk.block k hk1 (by simpa using hk2)⟩
theorem ackOk {E : Env} : CallOk E Tryz.prog (fun G l h fa k => bc (Nat.beq G 19) (ackX l h fa k) 1) := by
  refine chip_ok (xs := []) Tryz.call19 (fun ρ => rfl) fun b p m c n w hp hm hc hn hb => ?_
  refine (ack_c b _ _ _ (n : Int) w ((chipNat hp hm hc).2 hb)).mono ?_
  rintro e w' ⟨he, hat, hk⟩
  rw [bitNat hn, clrNat hp (two_lt hn), clrNat hm (two_lt hn)] at hat
  exact ⟨by rw [he, errOf, if_pos ⟨by omega, by omega⟩], (chipNat (clr_lt hp (two_lt hn)) (clr_lt hm (two_lt hn)) hc).1 hat, hk.os, hk.tape, hk.output, hk.size, fun k hk1 hk2 => hk.block k hk1 (by simpa using hk2)⟩
theorem lowN_eq {n : Nat} (h0 : 0 < n) (h1 : n < 65536) : low (BitVec.ofNat 16 n) = lowN n ∧ BitVec.ofNat 16 n ≠ 0 := by
  have ht : (BitVec.ofNat 16 n).toNat = n := by rw [BitVec.toNat_ofNat]; exact Nat.mod_eq_of_lt (by omega)
  have hne : BitVec.ofNat 16 n ≠ 0 := by
    intro h
    have := congrArg BitVec.toNat h
    rw [ht] at this
    simp at this
    omega
  have h := congrArg BitVec.toNat (low_pow _ hne)
  have hl := (low_is _ hne).1
  have h2 : (2 : Nat) ^ low (BitVec.ofNat 16 n) < 2 ^ 16 := Nat.pow_lt_pow_right (by omega) hl
  rw [BitVec.toNat_and, BitVec.toNat_neg, ht, BitVec.toNat_shiftLeft, Nat.shiftLeft_eq, show (1#16).toNat = 1 from rfl, Nat.one_mul, Nat.mod_eq_of_lt h2, Nat.mod_eq_of_lt (by omega : 2 ^ 16 - n < 2 ^ 16)] at h
  refine ⟨?_, hne⟩
  unfold lowN
  rw [show Nat.land n (65536 - n) = 2 ^ low (BitVec.ofNat 16 n) from h, Nat.log2_two_pow]
theorem tab_of {E : Env} {w : World} (hT : TabS E.s) (hw : w.heap[(E.s 0).b]? = some (.cells (E.s 0).cs (E.s 0).t (E.s 0).fz)) : Tab w := by
  intro i hi
  rw [hT.1] at hw
  rw [cell_of_at hw]
  exact hT.2 i hi
theorem tzOk {E : Env} (hT : TabS E.s) : CallOk E Tryz.prog (fun G l h fa k => bc (Nat.beq G 180) (tzX l h fa k) 1) := by
  refine tz_ok Tryz.call180 fun n w h0 h1 hw => ?_
  obtain ⟨e1, e2⟩ := lowN_eq h0 h1
  have := tz_c (BitVec.ofNat 16 n) e2 w (tab_of hT hw)
  rw [BitVec.toNat_ofNat, Nat.mod_eq_of_lt (by omega : n < 2 ^ 16), e1] at this
  exact this
theorem lenOk {E : Env} (hT : TabS E.s) : LenOk E := ⟨len64_ok Tryz.call176 (fun x w h0 h1 => Tryz.bits_Len64 x w h0 h1), raiseOk, maskOk, ackOk, tzOk hT⟩
theorem gbx_get {p : Ev.P} {o : O} (h : gbx.mk'.t.get p = some o) : p = .h ∧ o = .row 0 1 (.lit 32) (.lit 0) [] := by
  have e : gbx.mk' = ⟨.o .h, .o .h, (PT.e : PT O).set .h (.row 0 1 (.lit 32) (.lit 0) [])⟩ := by rfl
  rw [e] at h
  by_cases hp : p = .h
  · subst hp
    have h : ((PT.e : PT O).set .h (.row 0 1 (.lit 32) (.lit 0) [])).get .h = some o := h
    rw [PT.get_set_same] at h
    exact ⟨rfl, (Option.some.inj h).symm⟩
  · have h : ((PT.e : PT O).set .h (.row 0 1 (.lit 32) (.lit 0) [])).get p = some o := h
    rw [PT.get_set_other _ _ _ _ (fun e => hp e.symm), PT.get_e] at h
    cases h
theorem gbo : ooBeq (gbm.h'.mk'.t.get .h) (gbm.h.mk'.t.get .h) = true := by kernel_rfl
theorem round_ok {E : Env} : ∀ m j, InvL m j E → ∃ fa nx, FaOk E fa ∧ runJ stL xiT ziT (koB rsT) ⟨atL, 5, 20000⟩ j fa nx = 0 ∧ Leads stL InvL E nx m := by
  intro m j hI
  obtain ⟨hj, hT, h2, h12, h3, hm, h11⟩ := hI
  have hp := pickI_lt (c := E.i 2) (n := 5) (by omega)
  cases h : decide (E.i 3 < 1 + E.i 12) with
  | true => exact ⟨_, _, go_fa h11 (by omega) h, (l_go j hj).1, lead_go ⟨hj, hT, h2, h12, h3, hm, h11⟩ (of_decide_eq_true h)⟩
  | false => exact ⟨_, _, go_fa h11 (by omega) h, (l_go j hj).2, fun h => absurd rfl h⟩
theorem lines_E {E : Env} {W : World} (hT : TabS E.s) (hlen : (E.s 0).len = 32) (hez : (E.s 0).esz = 1) (hrow : W.heap[0]? = some (.cells (E.s 0).cs (E.s 0).t (E.s 0).fz))
    (h0 : -9223372036854775808 ≤ E.i 0 ∧ E.i 0 ≤ 9223372036854775807) (h1 : -9223372036854775808 ≤ E.i 1 ∧ E.i 1 ≤ 9223372036854775807) (h2 : -9223372036854775808 ≤ E.i 2 ∧ E.i 2 ≤ 9223372036854775807)
    (h11 : E.i 11 = pickI (E.i 1) 268435456) (h12 : E.i 12 = pickI (E.i 2) 5) :
    Calls Tryz.prog 5 (γL E (fun _ => ⟨0, 0⟩) argsL).toArray W fun e w' => e = .returned (.bool true) ∧ Below W.heap.size W w' := by
  have hx : ∀ E' : Env, E'.s = E.s → CxOk E' Tryz.prog (tyOf Tryz.prog) cx1 := fun E' h => cx1_ok (lenOk (by rw [h]; exact hT))
  have hc : ∀ E' : Env, E'.s = E.s → CallOk E' Tryz.prog call1 := fun E' h => call1_ok (lenOk (by rw [h]; exact hT))
  have hA : CallOk E Tryz.prog callA := callA_ok (hx E rfl) (hc E rfl)
  have hl : bdL gbx.mk'.n.toNat argsL := ⟨trivial, trivial, trivial, trivial⟩
  have hat : ∀ m j E, InvL m j E → CallOk E Tryz.prog atL := by
    intro m j E' hI
    obtain ⟨hj, hT', h2', h12', _⟩ := hI
    have hx' : ∀ E2 : Env, E2.s = E'.s → CxOk E2 Tryz.prog (tyOf Tryz.prog) cx1 := fun E2 h => cx1_ok (lenOk (by rw [h]; exact hT'))
    have hc' : ∀ E2 : Env, E2.s = E'.s → CallOk E2 Tryz.prog call1 := fun E2 h => call1_ok (lenOk (by rw [h]; exact hT'))
    exact pick_pure (v := .si .i64 (.v 12)) Tryz.call10 hx' hc' pk5_0 pk5_1 h2' trivial (fun ρ => by simp only [V.γ, SE.den, h12']) (hc' E' rfl)
  have hsat : Sat E (fun _ => ⟨0, 0⟩) gbx.mk' W := by
    refine ⟨fun p o hp => ?_, fun p q o o' hp hq _ _ _ => ?_, fun p o hp => ?_⟩
    · obtain ⟨rfl, rfl⟩ := gbx_get hp
      refine ⟨hT.1.symm, hrow, hez, ?_, fun h => absurd rfl h⟩
      rw [hlen]; rfl
    · rw [(gbx_get hp).1, (gbx_get hq).1]
    · obtain ⟨rfl, rfl⟩ := gbx_get hp
      exact ⟨by decide, trivial⟩
  have hn : ∀ (p : Ev.P) (o : O), gbx.mk'.t.get p = some o → o.live = true → gbx.mk'.lo.toNat ≤ p.toNat → W.heap.size ≤ ((fun _ => (⟨0, 0⟩ : Pl)) p).b := by
    intro p o hp _ hlo
    obtain ⟨rfl, rfl⟩ := gbx_get hp
    exact absurd hlo (by decide)
  have fin : ∀ (n : Nat) (v : V) (j : Nat), n < 16 → pickI (E.i 0) 16 = n → v.bd 0 → (∀ ρ, v.γ E ρ = .int .i64 (pickI (E.i 1) 268435456)) → j < 32 → (zOf j = false → 0 < E.i 11 ∧ E.i 11 < 268435456) →
      initFr argsL (fun fr => zIn ziT ⟨wayL n v, 5, 20000⟩ fr gbx.mk' (inF (zOf j)) (fun fr h _ => nextK stL [(j, sgA)] fr h) (koB rsT)) = 0 →
      Calls Tryz.prog 5 (γL E (fun _ => ⟨0, 0⟩) argsL).toArray W fun e w' => e = .returned (.bool true) ∧ Below W.heap.size W w' := by
    intro n v j hn16 hpick hv hval hj hj11 hin
    have hway : CallOk E Tryz.prog (wayL n v) := pick_pure (v := .i .i64 (.ofNat n)) Tryz.call10 hx hc pk16_0 pk16_1 h0 trivial (fun ρ => by simp only [V.γ, hpick]; rfl)
      (pick_pure Tryz.call10 hx hc pk268435456_0 pk268435456_1 h1 hv hval (msR_ok rfl gbo gbt FaOk.nil (hc E rfl) hA))
    exact cut_law tyOk_tyOf mixedX Tryz.func5 cT w5 (gj := fun _ => ⟨atL, 5, 20000⟩) (fun m j E => hat m j E) (fun m j E => round_ok m j) (g0 := ⟨wayL n v, 5, 20000⟩) hway (in_fa hj11) 100 (lead_in hj hT h2 h12 hj11) hin hsat hl hn
  have p0 := pickI_lt (c := E.i 0) (n := 16) (by omega)
  have p1 := pickI_lt (c := E.i 1) (n := 268435456) (by omega)
  obtain ⟨n, hn16⟩ := Int.eq_ofNat_of_zero_le p0.1
  have hnl : n < 16 := by omega
  by_cases hz : pickI (E.i 1) 268435456 = 0
  · have hb : ∀ ρ : Rho, (V.i .i64 0).γ E ρ = .int .i64 (pickI (E.i 1) 268435456) := fun ρ => by rw [hz]; rfl
    match n, hnl, hn16 with
    | 0, _, h => exact fin 0 (.i .i64 0) 1 (by omega) h trivial hb (by omega) (fun h => absurd h (by decide)) l_in1
    | 1, _, h => exact fin 1 (.i .i64 0) 3 (by omega) h trivial hb (by omega) (fun h => absurd h (by decide)) l_in3
    | 2, _, h => exact fin 2 (.i .i64 0) 5 (by omega) h trivial hb (by omega) (fun h => absurd h (by decide)) l_in5
    | 3, _, h => exact fin 3 (.i .i64 0) 7 (by omega) h trivial hb (by omega) (fun h => absurd h (by decide)) l_in7
    | 4, _, h => exact fin 4 (.i .i64 0) 9 (by omega) h trivial hb (by omega) (fun h => absurd h (by decide)) l_in9
    | 5, _, h => exact fin 5 (.i .i64 0) 11 (by omega) h trivial hb (by omega) (fun h => absurd h (by decide)) l_in11
    | 6, _, h => exact fin 6 (.i .i64 0) 13 (by omega) h trivial hb (by omega) (fun h => absurd h (by decide)) l_in13
    | 7, _, h => exact fin 7 (.i .i64 0) 15 (by omega) h trivial hb (by omega) (fun h => absurd h (by decide)) l_in15
    | 8, _, h => exact fin 8 (.i .i64 0) 17 (by omega) h trivial hb (by omega) (fun h => absurd h (by decide)) l_in17
    | 9, _, h => exact fin 9 (.i .i64 0) 19 (by omega) h trivial hb (by omega) (fun h => absurd h (by decide)) l_in19
    | 10, _, h => exact fin 10 (.i .i64 0) 21 (by omega) h trivial hb (by omega) (fun h => absurd h (by decide)) l_in21
    | 11, _, h => exact fin 11 (.i .i64 0) 23 (by omega) h trivial hb (by omega) (fun h => absurd h (by decide)) l_in23
    | 12, _, h => exact fin 12 (.i .i64 0) 25 (by omega) h trivial hb (by omega) (fun h => absurd h (by decide)) l_in25
    | 13, _, h => exact fin 13 (.i .i64 0) 27 (by omega) h trivial hb (by omega) (fun h => absurd h (by decide)) l_in27
    | 14, _, h => exact fin 14 (.i .i64 0) 29 (by omega) h trivial hb (by omega) (fun h => absurd h (by decide)) l_in29
    | 15, _, h => exact fin 15 (.i .i64 0) 31 (by omega) h trivial hb (by omega) (fun h => absurd h (by decide)) l_in31
    | n + 16, h, _ => exact absurd h (by omega)
  · have hb : ∀ ρ : Rho, (V.si .i64 (.v 11)).γ E ρ = .int .i64 (pickI (E.i 1) 268435456) := fun ρ => by simp only [V.γ, SE.den, h11]
    have h11' : 0 < E.i 11 ∧ E.i 11 < 268435456 := by omega
    match n, hnl, hn16 with
    | 0, _, h => exact fin 0 (.si .i64 (.v 11)) 0 (by omega) h trivial hb (by omega) (fun _ => h11') l_in0
    | 1, _, h => exact fin 1 (.si .i64 (.v 11)) 2 (by omega) h trivial hb (by omega) (fun _ => h11') l_in2
    | 2, _, h => exact fin 2 (.si .i64 (.v 11)) 4 (by omega) h trivial hb (by omega) (fun _ => h11') l_in4
    | 3, _, h => exact fin 3 (.si .i64 (.v 11)) 6 (by omega) h trivial hb (by omega) (fun _ => h11') l_in6
    | 4, _, h => exact fin 4 (.si .i64 (.v 11)) 8 (by omega) h trivial hb (by omega) (fun _ => h11') l_in8
    | 5, _, h => exact fin 5 (.si .i64 (.v 11)) 10 (by omega) h trivial hb (by omega) (fun _ => h11') l_in10
    | 6, _, h => exact fin 6 (.si .i64 (.v 11)) 12 (by omega) h trivial hb (by omega) (fun _ => h11') l_in12
    | 7, _, h => exact fin 7 (.si .i64 (.v 11)) 14 (by omega) h trivial hb (by omega) (fun _ => h11') l_in14
    | 8, _, h => exact fin 8 (.si .i64 (.v 11)) 16 (by omega) h trivial hb (by omega) (fun _ => h11') l_in16
    | 9, _, h => exact fin 9 (.si .i64 (.v 11)) 18 (by omega) h trivial hb (by omega) (fun _ => h11') l_in18
    | 10, _, h => exact fin 10 (.si .i64 (.v 11)) 20 (by omega) h trivial hb (by omega) (fun _ => h11') l_in20
    | 11, _, h => exact fin 11 (.si .i64 (.v 11)) 22 (by omega) h trivial hb (by omega) (fun _ => h11') l_in22
    | 12, _, h => exact fin 12 (.si .i64 (.v 11)) 24 (by omega) h trivial hb (by omega) (fun _ => h11') l_in24
    | 13, _, h => exact fin 13 (.si .i64 (.v 11)) 26 (by omega) h trivial hb (by omega) (fun _ => h11') l_in26
    | 14, _, h => exact fin 14 (.si .i64 (.v 11)) 28 (by omega) h trivial hb (by omega) (fun _ => h11') l_in28
    | 15, _, h => exact fin 15 (.si .i64 (.v 11)) 30 (by omega) h trivial hb (by omega) (fun _ => h11') l_in30
    | n + 16, h, _ => exact absurd h (by omega)
theorem lines_any (W : World) (hTab : Tab W) (a : Int) (ha : -9223372036854775808 ≤ a ∧ a ≤ 9223372036854775807) (b : Int) (hb : -9223372036854775808 ≤ b ∧ b ≤ 9223372036854775807) (c : Int) (hc : -9223372036854775808 ≤ c ∧ c ≤ 9223372036854775807) :
    Calls Tryz.prog 5 #[.int .i64 a, .int .i64 b, .int .i64 c] W fun e w' => e = .returned (.bool true) ∧ Below W.heap.size W w' := by
  obtain ⟨cs, t, fz, hw⟩ : ∃ cs t fz, W.heap[0]? = some (.cells cs t fz) := by
    have h := hTab 0 (by omega)
    unfold World.cell? at h
    cases hh : W.heap[0]? with
    | none => rw [hh] at h; simp at h
    | some o =>
      cases o with
      | cells cs t fz => exact ⟨cs, t, fz, rfl⟩
      | _ => rw [hh] at h; simp at h
  obtain ⟨E, hE⟩ : ∃ E : Env, E = ⟨fun i => if i = 0 then a else if i = 1 then b else if i = 2 then c else if i = 11 then pickI b 268435456 else if i = 12 then pickI c 5 else 0, fun _ => false, fun _ => ⟨0, 0, 32, 32, 1, 0, t, cs, fz⟩⟩ := ⟨_, rfl⟩
  have hT : TabS E.s := by
    rw [hE]
    refine ⟨rfl, fun i hi => ?_⟩
    have := hTab i hi
    rw [cell_of_at hw] at this
    exact this
  have := lines_E (E := E) (W := W) hT (by rw [hE]) (by rw [hE]) (by rw [hE]; exact hw) (by rw [hE]; exact ha) (by rw [hE]; exact hb) (by rw [hE]; exact hc) (by rw [hE]; rfl) (by rw [hE]; rfl)
  have hargs : (γL E (fun _ => ⟨0, 0⟩) argsL).toArray = #[.int .i64 a, .int .i64 b, .int .i64 c] := by
    rw [hE]
    rfl
  rw [hargs] at this
  exact this
theorem trodAll_stays {H : Type} {enc : TypeId × Value → H} {P : Program} (hl : laidOutB P = true) {W W' : World} (hb : Below W.heap.size W W') :
    ∀ (ts : List TypeId) (vs : List Value) (ds : List (DataW H)) (ps : List MemPlace), (∀ t ∈ ts, P.readableRec t = true ∧ t < P.types.size) →
    DataW.TrodAll enc P W 0 (fun _ => true) true ts vs ds ps → (∀ x ∈ ps, x.block < W.heap.size) → DataW.TrodAll enc P W' 0 (fun b => decide (b < W.heap.size)) true ts vs ds ps := by
  intro ts
  induction ts with
  | nil =>
    intro vs ds ps _ h _
    obtain ⟨rfl, rfl, rfl⟩ := trodAll_nil h
    exact trodAll_mk0
  | cons t ts ih =>
    intro vs ds ps hr h hlt
    obtain ⟨v0, vs0, d0, ds0, p0, q0, rfl, rfl, rfl, h0, r0⟩ := trodAll_cons h
    have h1 := hr t (by simp)
    exact trodAll_cons_mk (Below.trod hl h1.1 h1.2 h0 hb (fun x hx => hlt x (by simp [hx]))) (ih _ _ _ (fun t' ht' => hr t' (by simp [ht'])) r0 (fun x hx => hlt x (by simp [hx])))

theorem law_post {H : Type} {enc : TypeId × Value → H} {P : Program} {f : Func} {s : ChangeSpec} {W W' : World} {args : Array Value} {ds gs : List (DataW H)} {before : List MemPlace} {tb : TypeId}
    (hl : laidOutB P = true) (hr : ∀ t ∈ f.params.toList, P.readableRec t = true ∧ t < P.types.size) (hvars : s.vars = []) (hres : f.resultTypes = #[tb]) (htb : P.underlying tb = some .bool)
    (hW : DataW.Whole enc P f.params.toList s.vars false W args.toList ds gs before) (hb : Below W.heap.size W W')
    (hfn : s.fn H (ds ++ gs) = { results := [.lit (.bool true)], args := ds }) :
    s.post enc P f false true false false W args (.bool true) W' := by
  have hW0 := hW
  obtain ⟨p, q, hA, hV, hpq, hfz, hnd⟩ := hW
  refine ⟨ds, gs, before, [], p, [], hW0, ?_, ?_, ?_, hb.frame _, fun h => by cases h⟩
  · rw [hfn, hres]
    exact trodAll_cons_mk (shut_bool htb true) trodAll_mk0
  · rw [hfn]
    refine trodAll_stays hl hb _ _ _ _ hr hA (fun x hx => ?_)
    exact hW0.lt x (by rw [hpq]; simp [hx])
  · rw [hvars, hfn]
    rfl
theorem own : ownKnob Tryz.prog.godebug = none := by kernel_rfl
theorem laidOut : laidOutB Tryz.prog = true := by kernel_rfl
theorem gTab0 : Tryz.prog.globalNamed "math/bits.deBruijn32tab" = some 0 := by kernel_rfl
theorem gTabType0 : (Tryz.prog.globals[0]?).map (·.type) = some 248 := by kernel_rfl
theorem cellsTab0 : Tryz.prog.cellsOf 248 = 32 := by kernel_rfl
theorem cellsElem0 : Tryz.prog.cellsOf 5 = 1 := by kernel_rfl
theorem table {W : World} (h : laidMetH Tryz.prog Rows.kernelLinesRow.laid W) : Tab W := by
  have ht : Lib.TabIs Tryz.prog W "math/bits.deBruijn32tab" .u8 tab := Lib.tabIs_of_head (rest := []) gTab0 gTabType0 Tryz.underlying248 Tryz.underlying5 cellsElem0 cellsTab0 h
  intro i hi
  exact ht.cell gTab0 i hi

set_option maxRecDepth 100000 in
theorem contract (H : Type) (enc : TypeId × Value → H) (W : World) (base : Nat) (args : Array Value) (ds gs : List (DataW H)) (before : List MemPlace)
    (hval0 : ∀ (j : Nat) t v, Tryz.f5.params[j]? = some t → args[j]? = some v → Value.okWide Tryz.prog W .any base t v)
    (hW : DataW.Whole enc Tryz.prog Tryz.f5.params.toList Rows.kernelLinesSpec.vars false W args.toList ds gs before) (hL : laidMetH Tryz.prog Rows.kernelLinesRow.laid W) :
    Calls Tryz.prog 5 args W fun e W' => ∃ v, e = .returned v ∧ Rows.kernelLinesSpec.post enc Tryz.prog Tryz.f5 false true false false W args v W' := by
  have hval := hval0
  have hW' := hW
  obtain ⟨p, q, hA0, hV, rfl, hfz, hnd⟩ := hW
  have hA : DataW.TrodAll enc Tryz.prog W 0 (fun _ => true) true Tryz.f5.params.toList args.toList ds p := hA0
  rw [Tryz.params5] at hA hval
  obtain ⟨v0, vs0, d0, ds0, p0, q0, hargs, rfl, rfl, h0, r0⟩ := trodAll_cons hA
  obtain ⟨v1, vs1, d1, ds1, p1, q1, rfl, rfl, rfl, h1, r1⟩ := trodAll_cons r0
  obtain ⟨v2, vs2, d2, ds2, p2, q2, rfl, rfl, rfl, h2, r2⟩ := trodAll_cons r1
  obtain ⟨rfl, rfl, rfl⟩ := trodAll_nil r2
  obtain rfl : args = #[v0, v1, v2] := by cases args; simp_all
  obtain ⟨a0, rfl, rfl, rfl, w0⟩ := open_int Tryz.underlying3 (hval 0 3 v0 rfl rfl) h0
  have b0 : -9223372036854775808 ≤ a0 ∧ a0 ≤ 9223372036854775807 := by simp [Lit.wf, IntKind.min, IntKind.max, IntKind.signed, IntKind.bits] at w0; omega
  obtain ⟨a1, rfl, rfl, rfl, w1⟩ := open_int Tryz.underlying3 (hval 1 3 v1 rfl rfl) h1
  have b1 : -9223372036854775808 ≤ a1 ∧ a1 ≤ 9223372036854775807 := by simp [Lit.wf, IntKind.min, IntKind.max, IntKind.signed, IntKind.bits] at w1; omega
  obtain ⟨a2, rfl, rfl, rfl, w2⟩ := open_int Tryz.underlying3 (hval 2 3 v2 rfl rfl) h2
  have b2 : -9223372036854775808 ≤ a2 ∧ a2 ≤ 9223372036854775807 := by simp [Lit.wf, IntKind.min, IntKind.max, IntKind.signed, IntKind.bits] at w2; omega
  obtain ⟨rfl, rfl⟩ := trodVars_none hV
  refine (lines_any W (table hL) a0 b0 a1 b1 a2 b2).mono fun e W' ⟨he, hk⟩ => ?_
  subst he
  refine ⟨_, rfl, law_post laidOut ?_ rfl rfl Tryz.underlying4 hW' hk rfl⟩
  rw [Tryz.params5]
  intro t ht
  simp only [List.mem_cons, List.not_mem_nil, or_false] at ht
  rcases ht with rfl | rfl | rfl
  · exact ⟨by kernel_rfl, of_decide_eq_true (by kernel_rfl)⟩
  · exact ⟨by kernel_rfl, of_decide_eq_true (by kernel_rfl)⟩
  · exact ⟨by kernel_rfl, of_decide_eq_true (by kernel_rfl)⟩

noncomputable def laidWorld (os : Os) : World :=
  { World.holding Tryz.prog os ⟨#[], #[], []⟩ with heap := (World.holding Tryz.prog os ⟨#[], #[], []⟩).heap.modify 0 fun
      | .cells _ t frozen => .cells #[.int .u8 0, .int .u8 1, .int .u8 28, .int .u8 2, .int .u8 29, .int .u8 14, .int .u8 24, .int .u8 3, .int .u8 30, .int .u8 22, .int .u8 20, .int .u8 15, .int .u8 25, .int .u8 17, .int .u8 4, .int .u8 8, .int .u8 31, .int .u8 27, .int .u8 13, .int .u8 23, .int .u8 21, .int .u8 19, .int .u8 16, .int .u8 7, .int .u8 26, .int .u8 12, .int .u8 18, .int .u8 6, .int .u8 11, .int .u8 5, .int .u8 10, .int .u8 9] t frozen
      | o => o }
theorem laid_met (os : Os) : laidMet Tryz.prog Rows.kernelLinesRow.laid ((laidWorld os).forCall (fun _ _ => 0) ⟨#[], #[Value.int .i64 0, Value.int .i64 0, Value.int .i64 0], []⟩).memory :=
  laidMet_of_run' 8 (by kernel_rfl) (by kernel_rfl)
theorem reads (os : Os) {H : Type} (enc : TypeId × Value → H) : ∃ places, DataW.whole enc Tryz.prog ((laidWorld os).forCall (fun _ _ => 0) ⟨#[], #[Value.int .i64 0, Value.int .i64 0, Value.int .i64 0], []⟩).memory Tryz.f5.params.toList Rows.kernelLinesSpec.vars false (#[Value.int .i64 0, Value.int .i64 0, Value.int .i64 0] : Array Value).toList 8 = some ([.lit (.int .i64 0), .lit (.int .i64 0), .lit (.int .i64 0)], [], places) :=
  ⟨[], by kernel_rfl⟩

set_option maxRecDepth 100000 in
theorem lifted (os : Os) (started : os.Started) (H : Type) (enc : TypeId × Value → H) (F : Stop.Interp) :
    ReturnsInHanded {} Tryz.checked os 5 .any ((OpenSpec.ofChange Rows.kernelLinesSpec).preRow enc Tryz.prog Tryz.f5 Rows.kernelLinesRow.domain false Rows.kernelLinesRow.laid) (((OpenSpec.ofChange Rows.kernelLinesSpec).at F).post enc Tryz.prog Tryz.f5 false true false false) := by
  obtain ⟨places, hx⟩ := reads os enc
  refine returnsInHanded_of_row (C := Tryz.checked) (s := OpenSpec.ofChange Rows.kernelLinesSpec) own started (by kernel_rfl) Tryz.func5
    (witness_row_at (enc := enc) (C := Tryz.checked) false (laidWorld os) #[Value.int .i64 0, Value.int .i64 0, Value.int .i64 0] rfl (by kernel_rfl) (by kernel_rfl) (by kernel_rfl)
      (OpenSpec.preRow_of_cond 8 hx (by kernel_rfl) (fun k hk => by cases hk) (by kernel_rfl) (laid_met os))) ?_
  intro W base args ds gs before hval hW _ _ _ hL _ _
  exact contract H enc W base args ds gs before hval hW hL

set_option maxRecDepth 1000000 in
theorem said : Rows.KernelLinesSaid :=
  OpenClaim.holds_of_cond 5 Tryz.f5 rfl rfl rfl rfl rfl rfl rfl ⟨rfl, rfl, rfl, rfl, rfl⟩ rfl rfl rfl rfl rfl (by kernel_rfl) Tryz.func5 ljfacts
    (of_decide_eq_true (by kernel_rfl)) (by unfold Func.isWrapper; first | (rw [if_pos (by decide +kernel)]; kernel_rfl) | (rw [if_neg (by decide +kernel)]; exact ⟨rfl, rfl⟩))
    (fun os started H enc _ F => by rw [OpenClaim.pre_eq_preRow]; exact lifted os started H enc F)

end Go.Proofs.YtligpkenodgfoaaGreatDoor
end
