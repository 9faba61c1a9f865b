/-
 Contracts of dropping, of any words.
-/
import Derived.Test.YtgaelfnoffejgaaUPz
import Derived.Test.YtgaelfnoffejgaaMHp
set_option linter.unusedSimpArgs false
set_option linter.unusedVariables false
set_option maxRecDepth 100000
noncomputable section
namespace Go.Ev.X
open Go Go.Ev Go.Proofs
variable {E : Env} {f f' : Nat → Int} {t : Nat}
theorem dropU_ok (h l : Bool) {a b : Nat} (ha : a < 6) (hb : b < 6) : dropU h l a b = 0 := by
 have go : ∀ {h l : Bool}, allB (fun a => allB (fun b => Nat.beq (dropU h l a b) 0) (rng 6)) (rng 6) = true → dropU h l a b = 0 := fun hr => Nat.eq_of_beq_eq_true (rng_ok (rng_ok hr a ha) b hb)
 cases h <;> cases l
 ·exact go dropU3
 ·exact go dropU2
 ·exact go dropU1
 ·exact go dropU0
theorem drop_u (ht : T16 t) (hw : WA f) : AnyC 12 [.int .i64 t] f := by
 by_cases hr : RightAt f t
 rotate_left
 ·exact wrong_u ht hw hr notU_ok.1
 have fq' : ∀ E : Env, (∀ j, j < 30 → E.i (100 + j) = fldT (getT f t) (regs f t) j) → (SB.cmp .eql (.v 103) (.lit 1)).den E = (getT f t).q := fun E h => sbq (h 3 (by omega))
 cases hq : (getT f t).q with
 | false => exact ref_u ht hw hr notU_ok.2 fun E h => ⟨(fq' E h).trans hq, trivial⟩
 | true =>
 have hv := getT_right hr
 have htl := t16_lt ht
 obtain ⟨p, hpp⟩ : ∃ p : Nat, p = (getT f t).pr.toNat := ⟨_, rfl⟩
 have hp256 : p < 256 := by have := hv.pr; omega
 have hpe : (getT f t).pr = (p : Int) := by have := hv.pr; omega
 obtain ⟨k1, ⟨q1, u1⟩, c1⟩ := ends_p hp256 (hw (256 + p))
 obtain ⟨hh, htt⟩ := ends_lt f p
 have arg101 : ∀ {vs : Nat → Int} {E : Env}, IsP vs t f → AgV E vs → ∀ ρ, (V.si .i64 (.v 101)).γ E ρ = .int .i64 (p : Nat) := fun h hE ρ => vsi ((p_fl h hE (j := 1) (by omega)).trans hpe)
 obtain ⟨a, Ka, f1, ha, _, hKa, hw1, kp1, hallA⟩ := turn_ex hw (x := (getT f t).pv) (val := (getT f t).nx) hv.pv hv.nx true
 obtain ⟨b, Kb, f2, hb, _, hKb, hw2, kp2, hallB⟩ := turn_ex hw1 (x := (getT f t).nx) (val := (getT f t).pv) hv.nx hv.pv false
 have hv1 : TV.Right { getT f t with q := false, pv := 0, nx := 0 } := ⟨hv.st, hv.pr, hv.sl, by show (0 : Int) ≤ 0 ∧ (0 : Int) < 65536; omega, by show (0 : Int) ≤ 0 ∧ (0 : Int) < 65536; omega, hv.bl, hv.bd, hv.bo, hv.ha, hv.fk, hv.fa⟩
 obtain ⟨f3, hf3⟩ : ∃ f3, f3 = setT f2 t { getT f t with q := false, pv := 0, nx := 0 } := ⟨_, rfl⟩
 have hw3 : WA f3 := by rw [hf3]; exact wa_setT hw2 hv1
 have csth := sth_u (f := f2) ht hv1
 rw [← hf3, thV_congr (r := regs f2 t) (s := regs f t) fun j hj => (kp2 t j ht hj).trans (kp1 t j ht hj)] at csth
 obtain ⟨h', hh'⟩ : ∃ h' : Int, h' = if headOf f p = t then (getT f t).nx else headOf f p := ⟨_, rfl⟩
 obtain ⟨l', hl'⟩ : ∃ l' : Int, l' = if tailOf f p = t then (getT f t).pv else tailOf f p := ⟨_, rfl⟩
 have hhr : 0 ≤ h' ∧ h' < 65536 := by rw [hh']; split; exact hv.nx; exact hh
 have hlr : 0 ≤ l' ∧ l' < 65536 := by rw [hl']; split; exact hv.pv; exact htt
 obtain ⟨k3, ⟨q3, u3⟩, c3⟩ := setEnds_p (f := f3) (h := h') (l := l') hp256 hhr hlr (hw3 _) (hw3 _)
 obtain ⟨vs, hvs⟩ : ∃ vs, vs = vsP t f (headOf f p) (tailOf f p) f (getT f t).pv.toNat f1 (getT f t).nx.toNat := ⟨_, rfl⟩
 have hP : IsP vs t f := by rw [hvs]; exact isP_vs
 have v104 : vs 104 = (getT f t).pv := hP.fl 4 (by omega)
 have v105 : vs 105 = (getT f t).nx := hP.fl 5 (by omega)
 have v200 : vs 200 = headOf f p := by rw [hvs]; rfl
 have v201 : vs 201 = tailOf f p := by rw [hvs]; rfl
 have ag : ∀ E, AgV E vs → ∀ i, i < 9000 → i ≠ 5 → E.i i = vs i := fun E hE => hE
 obtain ⟨chA, foA⟩ := hallA vs 104 400 (.v 105) (by omega) (by omega) v104 (fun E hE => (ag E hE 105 (by omega) (by omega)).trans v105) (by rw [hvs]; exact vs_4) (by omega) (by omega)
 obtain ⟨chB, foB⟩ := hallB vs 105 600 (.v 104) (by omega) (by omega) v105 (fun E hE => (ag E hE 104 (by omega) (by omega)).trans v104) (by rw [hvs]; exact vs_6) (by omega) (by omega)
 have dE : ∀ E, AgV E vs → (SB.cmp .eql (.v 200) t1).den E = decide (headOf f p = t) := fun E hE => by
  show iEq (E.i 200) (E.i 1) = _
  rw [ag E hE 200 (by omega) (by omega), ag E hE 1 (by omega) (by omega), v200, hP.one, iEq_eq]
 have dL : ∀ E, AgV E vs → (SB.cmp .eql (.v 201) t1).den E = decide (tailOf f p = t) := fun E hE => by
  show iEq (E.i 201) (E.i 1) = _
  rw [ag E hE 201 (by omega) (by omega), ag E hE 1 (by omega) (by omega), v201, hP.one, iEq_eq]
 refine ⟨20 + (k1 + (Ka + (Kb + (20 + (k3 + 0))))), 0, _, by omega, by omega, wa_setQ hw3 hp256 hhr hlr, memC_ch hC0 (by decide) (sh := shD (decide (headOf f p = t)) (decide (tailOf f p = t)) a b) (fs := fsD' (decide (headOf f p = t)) (decide (tailOf f p = t)) a b) (v := .i .i64 0) (ps := []) (dropU_ok _ _ ha hb) rfl (vs := vs)
  (Chain.cons (by omega) (thr_u ht hr) (fun E hE ρ => arg1 (p_one hP hE ρ)) (fun E hE ρ => p_tD hP hE ρ) (Chain.cons q1 c1 (fun E hE ρ => arg1 (arg101 hP hE ρ)) (fun E hE ρ => tup2 (vsi ((ag E hE 200 (by omega) (by omega)).trans v200)) (vsi ((ag E hE 201 (by omega) (by omega)).trans v201)))
   (chain_app chA (chain_app chB (Chain.cons (by omega) csth (fun E hE ρ => arg2 (p_one hP hE ρ) (p_tN hP hE ρ rfl rfl rfl)) (fun E hE ρ => rfl) (Chain.cons q3 c3 (fun E hE ρ => arg3 (arg101 hP hE ρ) ?_ ?_) (fun E hE ρ => rfl) (Chain.nil _)))))))
  (fun E hE => ⟨(fq' E fun j hj => p_fl hP hE hj).trans hq, dE E hE, dL E hE, fs_app (foA E hE) (foB E hE)⟩) (fun E hE => trivial) (fun E hE ρ => arg1 (p_one hP hE ρ)) (fun E hE ρ => rfl)⟩
 ·rw [hh']
  by_cases e : headOf f p = t
  ·rw [decide_eq_true e, if_pos e]; exact vsi ((ag E hE 105 (by omega) (by omega)).trans v105)
  ·rw [decide_eq_false e, if_neg e]; exact vsi ((ag E hE 200 (by omega) (by omega)).trans v200)
 ·rw [hl']
  by_cases e : tailOf f p = t
  ·rw [decide_eq_true e, if_pos e]; exact vsi ((ag E hE 104 (by omega) (by omega)).trans v104)
  ·rw [decide_eq_false e, if_neg e]; exact vsi ((ag E hE 201 (by omega) (by omega)).trans v201)
end Go.Ev.X
end
/-
 The highest one, of any words.
-/
set_option linter.unusedSimpArgs false
set_option linter.unusedVariables false
set_option maxRecDepth 100000
noncomputable section
namespace Go.Ev.X
open Go Go.Ev Go.Proofs Go.RowKit
variable {E : Env} {f : Nat → Int}
theorem bl_le {x n : Nat} (h0 : x ≠ 0) (h : x < 2 ^ n) (hn : n ≤ 64) : 1 ≤ Lib.bitLen x ∧ Lib.bitLen x ≤ n := by
 obtain ⟨a, b, c⟩ := blA_bounds 64 x (Nat.lt_of_lt_of_le h (Nat.pow_le_pow_right (by decide) hn)) h0
 refine ⟨a, ?_⟩
 have : ¬ n < Lib.bitLen x := fun hlt => by
  have h1 : 2 ^ n ≤ 2 ^ (Lib.bitLen x - 1) := Nat.pow_le_pow_right (by decide) (by omega)
  have h2 : 2 ^ (Lib.bitLen x - 1) ≤ x := b
  omega
 omega
def hiEs3 : List Ent := [⟨38, [.i .i64 4], 1, rdV 100, .v 9000⟩, ⟨38, [.si .i64 (.op .add .i64 (.lit 8) (.op .sub .i64 (.v 200) (.lit 1)))], 2, rdV 300, .v 9002⟩]
theorem hi3_run : runX cx0 cP hiEs3 hiPs 14 [] ⟨[((.cmp .lss (.op .sub .i64 (.v 200) (.lit 1)) (.lit 0)), false), ((.cmp .eql (.v 300) (.lit 0)), true)], []⟩ (.i .i64 0) 2 (.op .add .i64 s1 (.v 9002)) = 0 := by decide +kernel
theorem high_u (hw : WA f) : ∃ (k : Nat) (ret : Int), 1 ≤ k ∧ k ≤ 3 ∧ MemC PP cP 14 [] f (.int .i64 ret) f k := by
 obtain ⟨s0, s1'⟩ := hw 4
 have hand : ∀ st (vs : Nat → Int) (rows : Nat → Nat → Int), vs 100 = f 4 → SE.den (envX cP.N st vs rows) (.op .and .u64 (.v 100) (.lit 15)) = f 4 % 16 := fun st vs rows hv => by
  have hv : SE.den (envX cP.N st vs rows) (.v 100) = f 4 := hv
  have := den_low (m := 15) 4 rfl (by omega) hv s0 s1'
  rw [this]; rfl
 have hm : 0 ≤ f 4 % 16 ∧ f 4 % 16 < 16 := by omega
 have w16 : W64 (f 4 % 16) := ⟨hm.1, by omega⟩
 by_cases h0 : f 4 % 16 = 0
 ·refine ⟨0 + 1, 0, by omega, by omega, memC_x hC0 (by decide) hi0_run rfl (hiVs (f 4) 0 0 0 0 1) (fun _ => f) fun st => ⟨stp_add (k := 0) (m := 1) rfl rfl (by omega), fa_list ⟨f_lt ?_, trivial⟩ trivial,
   ⟨ent_y (k := 1) (read_p (a := 4) (by omega) f) (by omega) rfl (fun ρ => rfl) (fun ρ => rfl), trivial⟩, ps_list ⟨pe_len (hand st _ _ rfl) w16 ?_, trivial⟩, fun ρ => rfl, fun ρ => rfl⟩⟩
  ·rw [den_subi (x := 0) (y := 1) rfl rfl (by omega) (by omega)]
   show (0 : Int) - 1 < 0
   omega
  ·rw [h0]; rfl
 obtain ⟨b1, b2⟩ := bl_le (x := (f 4 % 16).toNat) (n := 4) (by omega) (by omega) (by omega)
 obtain ⟨g, hg⟩ : ∃ g, Lib.bitLen (f 4 % 16).toNat = g + 1 := ⟨Lib.bitLen (f 4 % 16).toNat - 1, by omega⟩
 rw [hg] at b1 b2
 obtain ⟨w0, w1⟩ := hw (8 + g)
 by_cases hz : f (8 + g) = 0
 ·refine ⟨0 + 1 + 1, 0, by omega, by omega, ?_⟩
  refine memC_x hC0 (by decide) hi3_run rfl (hiVs (f 4) ((g + 1 : Nat) : Int) (f (8 + g)) 0 0 1) (fun _ => f) fun st => ?_
  generalize hE : envX cP.N st (hiVs (f 4) ((g + 1 : Nat) : Int) (f (8 + g)) 0 0 1) (fun _ => f) = E'
  have v200 : SE.den E' (.v 200) = ((g + 1 : Nat) : Int) := by rw [← hE]; rfl
  have v300 : SE.den E' (.v 300) = f (8 + g) := by rw [← hE]; rfl
  have d1 := den_subi (b := .lit 1) (y := 1) v200 rfl (by omega) (by omega)
  have d2 := den_addi (a := .lit 8) (x := 8) rfl d1 (by omega) (by omega)
  have hand' : SE.den E' (.op .and .u64 (.v 100) (.lit 15)) = f 4 % 16 := by rw [← hE]; exact hand st _ _ rfl
  have i200 : E'.i 200 = (Lib.bitLen (f 4 % 16).toNat : Nat) := by rw [← hE, hg]; rfl
  have l1 := pe_len hand' w16 i200
  have e2 : SE.den E' (.op .add .i64 (.lit 8) (.op .sub .i64 (.v 200) (.lit 1))) = ((8 + g : Nat) : Int) := by rw [d2]; omega
  have z1 : ¬ SE.den E' (.op .sub .i64 (.v 200) (.lit 1)) < 0 := by rw [d1]; omega
  subst hE
  exact ⟨stp_add (k := 0 + 1) (m := 1) (stp_add (k := 0) (m := 1) rfl rfl (by omega)) rfl (by omega),
   fa_list ⟨f_ltn (show (0 : Int) ≤ _ by omega), f_eq (show SE.den _ _ = (0 : Int) by rw [v300]; exact hz), trivial⟩ trivial,
   ⟨ent_y (k := 1) (read_p (a := 4) (by omega) f) (by omega) rfl (fun ρ => rfl) (fun ρ => rfl), ent_y (k := 1) (read_p (a := 8 + g) (by omega) f) (by omega) rfl (fun ρ => arg1 (vsi e2)) (fun ρ => rfl), trivial⟩, ps_list ⟨l1, trivial⟩, fun ρ => rfl, fun ρ => rfl⟩
 obtain ⟨k1, k2⟩ := bl_le (x := (f (8 + g)).toNat) (n := 64) (by omega) (by omega) (by omega)
 obtain ⟨k, hk⟩ : ∃ k, Lib.bitLen (f (8 + g)).toNat = k + 1 := ⟨Lib.bitLen (f (8 + g)).toNat - 1, by omega⟩
 rw [hk] at k1 k2
 have hp : 64 * g + k < 256 := by omega
 obtain ⟨n, ⟨pn, un⟩, cn⟩ := fronts_p hp (hw (256 + (64 * g + k)))
 refine ⟨0 + 1 + 1 + n, headOf f (64 * g + k), by omega, by omega, ?_⟩
 refine memC_x hC0 (by decide) hi1_run rfl (hiVs (f 4) ((g + 1 : Nat) : Int) (f (8 + g)) ((k + 1 : Nat) : Int) (headOf f (64 * g + k)) n) (fun _ => f) fun st => ?_
 generalize hE : envX cP.N st (hiVs (f 4) ((g + 1 : Nat) : Int) (f (8 + g)) ((k + 1 : Nat) : Int) (headOf f (64 * g + k)) n) (fun _ => f) = E'
 have v200 : SE.den E' (.v 200) = ((g + 1 : Nat) : Int) := by rw [← hE]; rfl
 have v300 : SE.den E' (.v 300) = f (8 + g) := by rw [← hE]; rfl
 have v400 : SE.den E' (.v 400) = ((k + 1 : Nat) : Int) := by rw [← hE]; rfl
 have d1 := den_subi (b := .lit 1) (y := 1) v200 rfl (by omega) (by omega)
 have d2 := den_addi (a := .lit 8) (x := 8) rfl d1 (by omega) (by omega)
 have d3 := den_muli (b := .lit 64) (y := 64) d1 rfl (by omega) (by omega)
 have d4 := den_subi (b := .lit 1) (y := 1) v400 rfl (by omega) (by omega)
 have d5 := den_addi d3 d4 (by omega) (by omega)
 have hand' : SE.den E' (.op .and .u64 (.v 100) (.lit 15)) = f 4 % 16 := by rw [← hE]; exact hand st _ _ rfl
 have i200 : E'.i 200 = (Lib.bitLen (f 4 % 16).toNat : Nat) := by rw [← hE, hg]; rfl
 have i400 : E'.i 400 = (Lib.bitLen (f (8 + g)).toNat : Nat) := by rw [← hE, hk]; rfl
 have l1 := pe_len hand' w16 i200
 have l2 := pe_len v300 ⟨w0, w1⟩ i400
 have e2 : SE.den E' (.op .add .i64 (.lit 8) (.op .sub .i64 (.v 200) (.lit 1))) = ((8 + g : Nat) : Int) := by rw [d2]; omega
 have e5 : SE.den E' (.op .add .i64 (.op .mul .i64 (.op .sub .i64 (.v 200) (.lit 1)) (.lit 64)) (.op .sub .i64 (.v 400) (.lit 1))) = ((64 * g + k : Nat) : Int) := by rw [d5]; omega
 have z1 : ¬ SE.den E' (.op .sub .i64 (.v 200) (.lit 1)) < 0 := by rw [d1]; omega
 have hret : ∀ ρ, (V.si .i64 (.v 500)).γ E' ρ = .int .i64 (headOf f (64 * g + k)) := fun ρ => by rw [← hE]; rfl
 subst hE
 exact ⟨stp_add (k := 0 + 1 + 1) (m := n) (stp_add (k := 0 + 1) (m := 1) (stp_add (k := 0) (m := 1) rfl rfl (by omega)) rfl (by omega)) rfl pn,
  fa_list ⟨f_ltn (show (0 : Int) ≤ _ by omega), f_eqn (show SE.den _ _ ≠ (0 : Int) by rw [v300]; exact hz), trivial⟩ trivial,
  ⟨ent_y (k := 1) (read_p (a := 4) (by omega) f) (by omega) rfl (fun ρ => rfl) (fun ρ => rfl), ent_y (k := 1) (read_p (a := 8 + g) (by omega) f) (by omega) rfl (fun ρ => arg1 (vsi e2)) (fun ρ => rfl),
   ent_y cn pn rfl (fun ρ => arg1 (vsi e5)) (fun ρ => rfl), trivial⟩, ps_list ⟨l1, l2, trivial⟩, fun ρ => rfl, hret⟩
end Go.Ev.X
end
