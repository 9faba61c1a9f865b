/-
  PROVED: citadellaw18.NotesBits returns true at every input; its arguments read as before. Condition: none.
-/
import Derived.Test.YtfgldnbccopplaaGreatRows
import Derived.Test.YtfgldnbccopplaaGreatLen
import Derived.Test.YtfgldnbccopplaaGreatNJ
import Derived.Test.YtfgldnbccopplaaGreatNTi
import Derived.Test.YtfgldnbccopplaaGreatNTn0
import Derived.Test.YtfgldnbccopplaaGreatNTn1
import Derived.Test.YtfgldnbccopplaaGreatNTg0
import Derived.Test.YtfgldnbccopplaaGreatNTg1
import Derived.Test.YtfgldnbccopplaaGreatNTo1
import Derived.Test.YtfgldnbccopplaaGreatNTo3
import Derived.Test.YtfgldnbccopplaaGreatNTo5
import Derived.Test.YtfgldnbccopplaaGreatNTo7
import Derived.Test.YtfgldnbccopplaaGreatNTo9
import Derived.Test.YtfgldnbccopplaaGreatNTo11
import Derived.ProofKit
import Derived.OpenShut
import Derived.Deep.DeepHandedRow
set_option linter.unusedSimpArgs false
set_option linter.unusedVariables false
noncomputable section
namespace Go.Proofs.YtfgldnbccopplaaGreat
open Go Go.Ev Go.Ev.X Go.ChangeShapes Go.WideShapes Go.ChangeAt Go.RowKit
theorem lenOk {E : Env} : LenOk E := len64_ok Tryz.call88 (fun x w h0 h1 => Tryz.bits_Len64 x w h0 h1)
theorem sat_nil {E : Env} (ρ : Rho) (w : World) : Sat E ρ ⟨.h, .h, .e⟩ w :=
  ⟨fun p o hp => absurd (show (none : Option O) = some o from (PT.get_e p).symm.trans hp) (by simp), fun p q o o' hp => absurd (show (none : Option O) = some o from (PT.get_e p).symm.trans hp) (by simp),
   fun p o hp => absurd (show (none : Option O) = some o from (PT.get_e p).symm.trans hp) (by simp)⟩
theorem ext_below {ρ ρ' : Rho} {h' : H} {w w' : World} (x : Ext ρ ⟨.h, .h, .e⟩ w ρ' h' w') : Below w.heap.size w w' :=
  ⟨x.os, x.tape, x.output, x.size, fun b hb => x.keep b hb fun p o hp => absurd (show (none : Option O) = some o from (PT.get_e p).symm.trans hp) (by simp)⟩
/-- what a run that ends well gives -/
theorem law_of_run {E : Env} {F : Nat} {l : List V} {fa : Fa} {inner : CallT} (hi : CallOk E Tryz.prog inner) (hfa : FaOk E fa) (hr : callS cx1 0 inner F l ⟨.h, .h, .e⟩ fa endB = 0) (hl : bdL 1 l) (W : World) :
    Calls Tryz.prog F (γL E (fun _ => ⟨0, 0⟩) l).toArray W fun e w' => e = .returned (.bool true) ∧ Below W.heap.size W w' := by
  obtain ⟨_, v, h', fa', hk, _, hc⟩ := callS_run (cx1_ok lenOk) 0 hi _ _ _ _ _ hr hfa
  obtain ⟨hv, _⟩ := bc_ok (show bc (V.beq v (.b true)) 0 1 = 0 from hk) (by simp)
  have hv := V.beq_ok hv
  subst hv
  refine (hc (fun _ => ⟨0, 0⟩) W hl (sat_nil _ W)).mono ?_
  rintro e w' ⟨ρ', rfl, _, x, _⟩
  exact ⟨rfl, ext_below x⟩
def gjB (j : Nat) : Ctx := ⟨(nth [call1, nAt1, call1, nAt3, call1, nAt5, call1, nAt7, call1, nAt9, call1, nAt11] j).getD call1, 3, 20000⟩
theorem roundB {E : Env} : ∀ m j, InvB m j E → j < 12 → ∃ fa nx, FaOk E fa ∧ runJ stT xiT ziT (koB rsT) (gjB j) j fa nx = 0 ∧ Leads stT (fun m j E => InvB m j E ∧ j < 12) E nx m := by
  intro m j hI hj
  obtain ⟨hlen, ⟨D, hD⟩, h20, hm, hk, hu, h4⟩ := hI
  have lead : ∀ {σ : Sg} {j' : Nat}, σ 1 = some (.v 1) → σ 3 = none → σ 2 = some (.op .add .i64 (.v 2) (.lit 1)) → E.i 2 < 50 → j' < 11 → j' % 2 = 0 → (4 ≤ j' % 6 → ∃ s4, σ 4 = some s4 ∧ 0 < s4.den E ∧ s4.den E < 268435456) → Leads stT (fun m j E => InvB m j E ∧ j < 12) E [(j', σ), (j' + 1, σ)] m := by
    intro σ j' a1 a3 a2 h50 b1 b2 a4 hne
    obtain ⟨jj, σ', m', E', c1, c2, c3, c4, c5⟩ := leadB (m := m) (j := j') (x := E.i 2 + 1) a1 a3 a2 (den_nx h20 h50) (by omega) (by omega) hD hlen (by omega) (by omega) b2 a4 hne
    exact ⟨jj, σ', m', E', c1, c2, ⟨c3, by simp at c1; omega⟩, c4, c5⟩
  match j, hj with
  | 0, _ =>
    obtain ⟨k1, k2, k3, k4⟩ := hk rfl
    rcases bd_cases k3 with ⟨hs, b0, b1⟩ | ⟨hs, b0, b1⟩
    · by_cases hz : SE.den E bd0 = 0
      · exact ⟨_, _, fa_all (all_app (fGo_all k1 k2 hs) (zero_all hz)), n_go0z0, lead rfl rfl rfl k2 (by decide) rfl (fun h => absurd h (by decide))⟩
      · obtain ⟨z, z1, z2, z3, z4⟩ := den_ori (E := E) (e := .lit 0) (f := bd0) (x := 0) rfl rfl ⟨Int.le_refl 0, by decide⟩ ⟨b0, b1⟩
        exact ⟨_, _, fa_all (all_app (fGo_all k1 k2 hs) (fX_ok z1 (by omega) z4)), n_go0p0, lead rfl rfl rfl k2 (by decide) rfl (fun _ => ⟨_, rfl, by rw [z1]; omega, by rw [z1]; exact z4⟩)⟩
    · by_cases hz : SE.den E bd1 = 0
      · exact ⟨_, _, fa_all (all_app (fGo_all k1 k2 hs) (zero_all hz)), n_go0z1, lead rfl rfl rfl k2 (by decide) rfl (fun h => absurd h (by decide))⟩
      · obtain ⟨z, z1, z2, z3, z4⟩ := den_ori (E := E) (e := .lit 0) (f := bd1) (x := 0) rfl rfl ⟨Int.le_refl 0, by decide⟩ ⟨b0, b1⟩
        exact ⟨_, _, fa_all (all_app (fGo_all k1 k2 hs) (fX_ok z1 (by omega) z4)), n_go0p1, lead rfl rfl rfl k2 (by decide) rfl (fun _ => ⟨_, rfl, by rw [z1]; omega, by rw [z1]; exact z4⟩)⟩
  | 1, _ =>
    by_cases h : E.i 2 < E.i 1
    · exact ⟨_, [], fa_all (fE1_all h (fun h5 => hu rfl ⟨h, h5⟩)), n_out11, fun h => absurd rfl h⟩
    · exact ⟨_, [], fa_all (fE0_all h), n_out10, fun h => absurd rfl h⟩
  | 2, _ =>
    obtain ⟨k1, k2, k3, k4⟩ := hk rfl
    rcases bd_cases k3 with ⟨hs, b0, b1⟩ | ⟨hs, b0, b1⟩
    · by_cases hz : SE.den E bd0 = 0
      · exact ⟨_, _, fa_all (all_app (fGo_all k1 k2 hs) (zero_all hz)), n_go2z0, lead rfl rfl rfl k2 (by decide) rfl (fun h => absurd h (by decide))⟩
      · obtain ⟨z, z1, z2, z3, z4⟩ := den_ori (E := E) (e := .lit 0) (f := bd0) (x := 0) rfl rfl ⟨Int.le_refl 0, by decide⟩ ⟨b0, b1⟩
        exact ⟨_, _, fa_all (all_app (fGo_all k1 k2 hs) (fX_ok z1 (by omega) z4)), n_go2p0, lead rfl rfl rfl k2 (by decide) rfl (fun _ => ⟨_, rfl, by rw [z1]; omega, by rw [z1]; exact z4⟩)⟩
    · by_cases hz : SE.den E bd1 = 0
      · exact ⟨_, _, fa_all (all_app (fGo_all k1 k2 hs) (zero_all hz)), n_go2z1, lead rfl rfl rfl k2 (by decide) rfl (fun h => absurd h (by decide))⟩
      · obtain ⟨z, z1, z2, z3, z4⟩ := den_ori (E := E) (e := .lit 0) (f := bd1) (x := 0) rfl rfl ⟨Int.le_refl 0, by decide⟩ ⟨b0, b1⟩
        exact ⟨_, _, fa_all (all_app (fGo_all k1 k2 hs) (fX_ok z1 (by omega) z4)), n_go2p1, lead rfl rfl rfl k2 (by decide) rfl (fun _ => ⟨_, rfl, by rw [z1]; omega, by rw [z1]; exact z4⟩)⟩
  | 3, _ =>
    by_cases h : E.i 2 < E.i 1
    · exact ⟨_, [], fa_all (fE1_all h (fun h5 => hu rfl ⟨h, h5⟩)), n_out31, fun h => absurd rfl h⟩
    · exact ⟨_, [], fa_all (fE0_all h), n_out30, fun h => absurd rfl h⟩
  | 4, _ =>
    obtain ⟨k1, k2, k3, k4⟩ := hk rfl
    obtain ⟨v1, v2⟩ := h4 (by decide)
    rcases bd_cases k3 with ⟨hs, b0, b1⟩ | ⟨hs, b0, b1⟩
    · obtain ⟨z, z1, z2, z3, z4⟩ := den_ori (E := E) (e := .v 4) (f := bd0) rfl rfl ⟨by show 0 ≤ E.i 4; omega, v2⟩ ⟨b0, b1⟩
      have z2 : E.i 4 ≤ z := z2
      exact ⟨_, _, fa_all (all_app (all_app (fGo_all k1 k2 hs) (fW_all v1 v2)) (fX_ok z1 (by omega) z4)), n_go4q0, lead rfl rfl rfl k2 (by decide) rfl (fun _ => ⟨_, rfl, by rw [z1]; omega, by rw [z1]; exact z4⟩)⟩
    · obtain ⟨z, z1, z2, z3, z4⟩ := den_ori (E := E) (e := .v 4) (f := bd1) rfl rfl ⟨by show 0 ≤ E.i 4; omega, v2⟩ ⟨b0, b1⟩
      have z2 : E.i 4 ≤ z := z2
      exact ⟨_, _, fa_all (all_app (all_app (fGo_all k1 k2 hs) (fW_all v1 v2)) (fX_ok z1 (by omega) z4)), n_go4q1, lead rfl rfl rfl k2 (by decide) rfl (fun _ => ⟨_, rfl, by rw [z1]; omega, by rw [z1]; exact z4⟩)⟩
  | 5, _ =>
    by_cases h : E.i 2 < E.i 1
    · exact ⟨_, [], fa_all (all_app (fE1_all h (fun h5 => hu rfl ⟨h, h5⟩)) (fW_all (h4 (by decide)).1 (h4 (by decide)).2)), n_out51, fun h => absurd rfl h⟩
    · exact ⟨_, [], fa_all (all_app (fE0_all h) (fW_all (h4 (by decide)).1 (h4 (by decide)).2)), n_out50, fun h => absurd rfl h⟩
  | 6, _ =>
    obtain ⟨k1, k2, k3, k4⟩ := hk rfl
    rcases bd_cases k3 with ⟨hs, b0, b1⟩ | ⟨hs, b0, b1⟩
    · by_cases hz : SE.den E bd0 = 0
      · exact ⟨_, _, fa_all (all_app (fGo_all k1 k2 hs) (zero_all hz)), n_go6z0, lead rfl rfl rfl k2 (by decide) rfl (fun h => absurd h (by decide))⟩
      · obtain ⟨z, z1, z2, z3, z4⟩ := den_ori (E := E) (e := .lit 0) (f := bd0) (x := 0) rfl rfl ⟨Int.le_refl 0, by decide⟩ ⟨b0, b1⟩
        exact ⟨_, _, fa_all (all_app (fGo_all k1 k2 hs) (fX_ok z1 (by omega) z4)), n_go6p0, lead rfl rfl rfl k2 (by decide) rfl (fun _ => ⟨_, rfl, by rw [z1]; omega, by rw [z1]; exact z4⟩)⟩
    · by_cases hz : SE.den E bd1 = 0
      · exact ⟨_, _, fa_all (all_app (fGo_all k1 k2 hs) (zero_all hz)), n_go6z1, lead rfl rfl rfl k2 (by decide) rfl (fun h => absurd h (by decide))⟩
      · obtain ⟨z, z1, z2, z3, z4⟩ := den_ori (E := E) (e := .lit 0) (f := bd1) (x := 0) rfl rfl ⟨Int.le_refl 0, by decide⟩ ⟨b0, b1⟩
        exact ⟨_, _, fa_all (all_app (fGo_all k1 k2 hs) (fX_ok z1 (by omega) z4)), n_go6p1, lead rfl rfl rfl k2 (by decide) rfl (fun _ => ⟨_, rfl, by rw [z1]; omega, by rw [z1]; exact z4⟩)⟩
  | 7, _ =>
    by_cases h : E.i 2 < E.i 1
    · exact ⟨_, [], fa_all (fE1_all h (fun h5 => hu rfl ⟨h, h5⟩)), n_out71, fun h => absurd rfl h⟩
    · exact ⟨_, [], fa_all (fE0_all h), n_out70, fun h => absurd rfl h⟩
  | 8, _ =>
    obtain ⟨k1, k2, k3, k4⟩ := hk rfl
    rcases bd_cases k3 with ⟨hs, b0, b1⟩ | ⟨hs, b0, b1⟩
    · by_cases hz : SE.den E bd0 = 0
      · exact ⟨_, _, fa_all (all_app (fGo_all k1 k2 hs) (zero_all hz)), n_go8z0, lead rfl rfl rfl k2 (by decide) rfl (fun h => absurd h (by decide))⟩
      · obtain ⟨z, z1, z2, z3, z4⟩ := den_ori (E := E) (e := .lit 0) (f := bd0) (x := 0) rfl rfl ⟨Int.le_refl 0, by decide⟩ ⟨b0, b1⟩
        exact ⟨_, _, fa_all (all_app (fGo_all k1 k2 hs) (fX_ok z1 (by omega) z4)), n_go8p0, lead rfl rfl rfl k2 (by decide) rfl (fun _ => ⟨_, rfl, by rw [z1]; omega, by rw [z1]; exact z4⟩)⟩
    · by_cases hz : SE.den E bd1 = 0
      · exact ⟨_, _, fa_all (all_app (fGo_all k1 k2 hs) (zero_all hz)), n_go8z1, lead rfl rfl rfl k2 (by decide) rfl (fun h => absurd h (by decide))⟩
      · obtain ⟨z, z1, z2, z3, z4⟩ := den_ori (E := E) (e := .lit 0) (f := bd1) (x := 0) rfl rfl ⟨Int.le_refl 0, by decide⟩ ⟨b0, b1⟩
        exact ⟨_, _, fa_all (all_app (fGo_all k1 k2 hs) (fX_ok z1 (by omega) z4)), n_go8p1, lead rfl rfl rfl k2 (by decide) rfl (fun _ => ⟨_, rfl, by rw [z1]; omega, by rw [z1]; exact z4⟩)⟩
  | 9, _ =>
    by_cases h : E.i 2 < E.i 1
    · exact ⟨_, [], fa_all (fE1_all h (fun h5 => hu rfl ⟨h, h5⟩)), n_out91, fun h => absurd rfl h⟩
    · exact ⟨_, [], fa_all (fE0_all h), n_out90, fun h => absurd rfl h⟩
  | 10, _ =>
    obtain ⟨k1, k2, k3, k4⟩ := hk rfl
    obtain ⟨v1, v2⟩ := h4 (by decide)
    rcases bd_cases k3 with ⟨hs, b0, b1⟩ | ⟨hs, b0, b1⟩
    · obtain ⟨z, z1, z2, z3, z4⟩ := den_ori (E := E) (e := .v 4) (f := bd0) rfl rfl ⟨by show 0 ≤ E.i 4; omega, v2⟩ ⟨b0, b1⟩
      have z2 : E.i 4 ≤ z := z2
      exact ⟨_, _, fa_all (all_app (all_app (fGo_all k1 k2 hs) (fW_all v1 v2)) (fX_ok z1 (by omega) z4)), n_go10q0, lead rfl rfl rfl k2 (by decide) rfl (fun _ => ⟨_, rfl, by rw [z1]; omega, by rw [z1]; exact z4⟩)⟩
    · obtain ⟨z, z1, z2, z3, z4⟩ := den_ori (E := E) (e := .v 4) (f := bd1) rfl rfl ⟨by show 0 ≤ E.i 4; omega, v2⟩ ⟨b0, b1⟩
      have z2 : E.i 4 ≤ z := z2
      exact ⟨_, _, fa_all (all_app (all_app (fGo_all k1 k2 hs) (fW_all v1 v2)) (fX_ok z1 (by omega) z4)), n_go10q1, lead rfl rfl rfl k2 (by decide) rfl (fun _ => ⟨_, rfl, by rw [z1]; omega, by rw [z1]; exact z4⟩)⟩
  | 11, _ =>
    by_cases h : E.i 2 < E.i 1
    · exact ⟨_, [], fa_all (all_app (fE1_all h (fun h5 => hu rfl ⟨h, h5⟩)) (fW_all (h4 (by decide)).1 (h4 (by decide)).2)), n_out111, fun h => absurd rfl h⟩
    · exact ⟨_, [], fa_all (all_app (fE0_all h) (fW_all (h4 (by decide)).1 (h4 (by decide)).2)), n_out110, fun h => absurd rfl h⟩
  | n + 12, hj => exact absurd hj (by omega)
theorem callsB {E : Env} (hx : CxOk E Tryz.prog (tyOf Tryz.prog) cx1) (h1 : CallOk E Tryz.prog call1) : ∀ m j, InvB m j E → j < 12 → CallOk E Tryz.prog (gjB j).call := by
  intro m j hI hj
  match j, hj with
  | 0, _ => exact h1
  | 1, _ => exact nAt1_ok hx h1
  | 2, _ => exact h1
  | 3, _ => exact nAt3_ok hx h1
  | 4, _ => exact h1
  | 5, _ => exact nAt5_ok hx h1 (fa_all (fW_all (hI.2.2.2.2.2.2 (by decide)).1 (hI.2.2.2.2.2.2 (by decide)).2))
  | 6, _ => exact h1
  | 7, _ => exact nAt7_ok hx h1
  | 8, _ => exact h1
  | 9, _ => exact nAt9_ok hx h1
  | 10, _ => exact h1
  | 11, _ => exact nAt11_ok hx h1 (fa_all (fW_all (hI.2.2.2.2.2.2 (by decide)).1 (hI.2.2.2.2.2.2 (by decide)).2))
  | n + 12, hj => exact absurd hj (by omega)
section
variable {E : Env}
theorem den_rem (e : SE) (h0 : 0 ≤ e.den E) : SE.den E (.op .rem .i64 e (.lit 2)) = e.den E % 2 := by
  show (e.den E).tmod 2 = _
  rw [Int.tmod_eq_emod_of_nonneg h0]
theorem den_ng (h0 : -9223372036854775808 ≤ E.i 0) (h1 : E.i 0 < 0) : SE.den E (.op .sub .i64 (.lit 0) (.op .add .i64 (.v 0) (.lit 1))) = -(E.i 0 + 1) := by
  show wrapF .i64 (0 - wrapF .i64 (E.i 0 + 1)) = _
  rw [wrapF_eq, wrapF_eq, IntKind.wrap_i64, IntKind.wrap_i64]
  omega
theorem eq_true {e : SE} {k : Int} (h : e.den E = k) : SB.den E (.cmp .eql e (.lit k)) = true := by
  show (cmpI .eql (e.den E) k).getD false = true
  rw [h]
  show iEq k k = true
  rw [iEq_eq]; simp
end
theorem faI0 {E : Env} {k : Nat} {c : SB} (h : 0 ≤ E.i 0) (hk : E.i 0 % 2 = k) (hc : c = .cmp .eql (.op .rem .i64 (.v 0) (.lit 2)) (.lit k)) : FaOk E ⟨[(geB0, false), (c, true)], []⟩ := by
  refine fa_all ?_
  simp only [List.mem_cons, List.not_mem_nil, or_false, forall_eq_or_imp, forall_eq]
  refine ⟨?_, ?_⟩
  · show iLt (E.i 0) 0 = false
    rw [iLt_eq]
    exact decide_eq_false (by omega)
  · rw [hc]
    exact eq_true (by rw [den_rem (.v 0) (show 0 ≤ E.i 0 from h)]; exact hk)
theorem faI1 {E : Env} {k : Nat} {c : SB} (h : -9223372036854775808 ≤ E.i 0 ∧ E.i 0 < 0) (hk : (-(E.i 0 + 1)) % 2 = k) (hc : c = .cmp .eql (.op .rem .i64 (.op .sub .i64 (.lit 0) (.op .add .i64 (.v 0) (.lit 1))) (.lit 2)) (.lit k)) : FaOk E ⟨[(geB0, true), (c, true)], []⟩ := by
  refine fa_all ?_
  simp only [List.mem_cons, List.not_mem_nil, or_false, forall_eq_or_imp, forall_eq]
  refine ⟨?_, ?_⟩
  · show iLt (E.i 0) 0 = true
    rw [iLt_eq]
    exact decide_eq_true h.2
  · rw [hc]
    exact eq_true (by rw [den_rem _ (by rw [den_ng h.1 h.2]; omega), den_ng h.1 h.2]; exact hk)
theorem sat_row {E : Env} {W : World} (hW : W.heap[(E.s 0).b]? = some (.cells (E.s 0).cs (E.s 0).t (E.s 0).fz)) (he : (E.s 0).esz = 1) (hl : E.i 1 = (E.s 0).len) : Sat E (fun _ => ⟨(E.s 0).b, 0⟩) hR W := by
  have get : ∀ p o, hR.t.get p = some o → p = .h ∧ o = .row 0 1 (.v 1) (.v 2) [] := by
    intro p o hp
    by_cases h : p = .h
    · subst h
      have : some (O.row 0 1 (.v 1) (.v 2) []) = some o := hp
      exact ⟨rfl, (Option.some.inj this).symm⟩
    · have : hR.t.get p = (PT.e : PT O).get p := PT.get_set_other .h p .e _ (fun e => h e.symm)
      rw [this, PT.get_e] at hp
      cases hp
  refine ⟨fun p o hp => ?_, fun p q o o' hp hq _ _ _ => ?_, fun p o hp => ?_⟩
  · obtain ⟨rfl, rfl⟩ := get p o hp
    exact ⟨rfl, hW, he, hl, fun h => absurd rfl h⟩
  · rw [(get p o hp).1, (get q o' hq).1]
  · obtain ⟨rfl, rfl⟩ := get p o hp
    exact ⟨by decide, trivial⟩
theorem bits_E (E : Env) (W : World) (hb : -9223372036854775808 ≤ E.i 0 ∧ E.i 0 ≤ 9223372036854775807) (hW : W.heap[(E.s 0).b]? = some (.cells (E.s 0).cs (E.s 0).t (E.s 0).fz)) (he : (E.s 0).esz = 1) (hlen : E.i 1 = (E.s 0).len) {D : Nat → Int} (hD : RowD (E.s 0) D) :
    Calls Tryz.prog 3 (γL E (fun _ => ⟨(E.s 0).b, 0⟩) argsR).toArray W fun e w' => e = .returned (.bool true) ∧ Below W.heap.size W w' := by
  have hx : ∀ E : Env, CxOk E Tryz.prog (tyOf Tryz.prog) cx1 := fun E => cx1_ok lenOk
  have h1 : ∀ E : Env, CallOk E Tryz.prog call1 := fun E => call1_ok lenOk
  have hA : CallOk E Tryz.prog callA := callA_ok (hx E) (h1 E)
  have hl : bdL hR.n.toNat argsR := ⟨show (1 : Nat) < 2 by decide, trivial, trivial⟩
  have hn : ∀ (p : Ev.P) (o : O), hR.t.get p = some o → o.live = true → hR.lo.toNat ≤ p.toNat → W.heap.size ≤ ((fun _ => (⟨(E.s 0).b, 0⟩ : Pl)) p).b := by
    intro p o hp _ h2
    have := ((sat_row hW he hlen).bd p o hp).1
    have e1 : hR.n.toNat = 2 := rfl
    have e2 : hR.lo.toNat = 2 := rfl
    omega
  have lead : ∀ j, j < 11 → j % 6 = 0 → Leads stT (fun m j E => InvB m j E ∧ j < 12) E [(j, sgI), (j + 1, sgI)] 51 := by
    intro j hj h6 hne
    obtain ⟨jj, σ', m', E', c1, c2, c3, c4, c5⟩ := leadB (σ := sgI) (j := j) (m := 51) (x := 0) rfl rfl rfl rfl (by decide) (by decide) hD hlen (by decide) (by omega) (by omega) (fun h => by omega) hne
    exact ⟨jj, σ', m', E', c1, c2, ⟨c3, by simp at c1; omega⟩, c4, c5⟩
  have go : ∀ {fa : Fa} {j : Nat}, FaOk E fa → j < 11 → j % 6 = 0 → initFr argsR (fun fr => zIn ziT ⟨nWay, 3, 20000⟩ fr hR fa (fun fr h _ => nextK stT [(j, sgI), (j + 1, sgI)] fr h) (koB rsT)) = 0 → Calls Tryz.prog 3 (γL E (fun _ => ⟨(E.s 0).b, 0⟩) argsR).toArray W fun e w' => e = .returned (.bool true) ∧ Below W.heap.size W w' := by
    intro fa j hf hj h6 hr
    exact cut_law tyOk_tyOf mixedX Tryz.func3 cT w3 (Inv := fun m j E => InvB m j E ∧ j < 12) (fun m j E h => callsB (hx E) (h1 E) m j h.1 h.2) (fun m j E h => roundB m j h.1 h.2) (g0 := ⟨nWay, 3, 20000⟩) (nWay_ok (hx E) (h1 E) hA) hf 51 (lead j hj h6) hr (sat_row hW he hlen) hl hn
  rcases (by omega : (0 ≤ E.i 0 ∧ (E.i 0 % 2 = (0 : Nat) ∨ E.i 0 % 2 = (1 : Nat))) ∨ (E.i 0 < 0 ∧ ((-(E.i 0 + 1)) % 2 = (0 : Nat) ∨ (-(E.i 0 + 1)) % 2 = (1 : Nat)))) with ⟨h0, hk | hk⟩ | ⟨h0, hk | hk⟩
  · exact go (faI0 h0 hk rfl) (by decide) rfl n_in00
  · exact go (faI0 h0 hk rfl) (by decide) rfl n_in01
  · exact go (faI1 ⟨hb.1, h0⟩ hk rfl) (by decide) rfl n_in10
  · exact go (faI1 ⟨hb.1, h0⟩ hk rfl) (by decide) rfl n_in11
theorem nil_E (E : Env) (W : World) (hb : -9223372036854775808 ≤ E.i 0 ∧ E.i 0 ≤ 9223372036854775807) :
    Calls Tryz.prog 3 (γL E (fun _ => ⟨0, 0⟩) argsN).toArray W fun e w' => e = .returned (.bool true) ∧ Below W.heap.size W w' := by
  have hx : CxOk E Tryz.prog (tyOf Tryz.prog) cx1 := cx1_ok lenOk
  have h1 : CallOk E Tryz.prog call1 := call1_ok lenOk
  have hA : CallOk E Tryz.prog callA := callA_ok hx h1
  have hl : bdL 1 argsN := ⟨trivial, trivial, trivial⟩
  rcases (by omega : (0 ≤ E.i 0 ∧ (E.i 0 % 2 = (0 : Nat) ∨ E.i 0 % 2 = (1 : Nat))) ∨ (E.i 0 < 0 ∧ ((-(E.i 0 + 1)) % 2 = (0 : Nat) ∨ (-(E.i 0 + 1)) % 2 = (1 : Nat)))) with ⟨h0, hk | hk⟩ | ⟨h0, hk | hk⟩
  · exact law_of_run (nNil0_ok hx h1 hA) (faI0 h0 hk rfl) n_nil00 hl W
  · exact law_of_run (nNil1_ok hx h1 hA) (faI0 h0 hk rfl) n_nil01 hl W
  · exact law_of_run (nNil0_ok hx h1 hA) (faI1 ⟨hb.1, h0⟩ hk rfl) n_nil10 hl W
  · exact law_of_run (nNil1_ok hx h1 hA) (faI1 ⟨hb.1, h0⟩ hk rfl) n_nil11 hl W
theorem trodAll_stays {H : Type} {enc : TypeId × Value → H} {P : Program} (hl : laidOutB P = true) {W W' : World} (hb : Below W.heap.size W W') :
    ∀ (ts : List TypeId) (vs : List Value) (ds : List (DataW H)) (ps : List MemPlace), (∀ t ∈ ts, P.readableRec t = true ∧ t < P.types.size) →
    DataW.TrodAll enc P W 0 (fun _ => true) true ts vs ds ps → (∀ x ∈ ps, x.block < W.heap.size) → DataW.TrodAll enc P W' 0 (fun b => decide (b < W.heap.size)) true ts vs ds ps := by
  intro ts
  induction ts with
  | nil =>
    intro vs ds ps _ h _
    obtain ⟨rfl, rfl, rfl⟩ := trodAll_nil h
    exact trodAll_mk0
  | cons t ts ih =>
    intro vs ds ps hr h hlt
    obtain ⟨v0, vs0, d0, ds0, p0, q0, rfl, rfl, rfl, h0, r0⟩ := trodAll_cons h
    have h1 := hr t (by simp)
    exact trodAll_cons_mk (Below.trod hl h1.1 h1.2 h0 hb (fun x hx => hlt x (by simp [hx]))) (ih _ _ _ (fun t' ht' => hr t' (by simp [ht'])) r0 (fun x hx => hlt x (by simp [hx])))

theorem law_post {H : Type} {enc : TypeId × Value → H} {P : Program} {f : Func} {s : ChangeSpec} {W W' : World} {args : Array Value} {ds gs : List (DataW H)} {before : List MemPlace} {tb : TypeId}
    (hl : laidOutB P = true) (hr : ∀ t ∈ f.params.toList, P.readableRec t = true ∧ t < P.types.size) (hvars : s.vars = []) (hres : f.resultTypes = #[tb]) (htb : P.underlying tb = some .bool)
    (hW : DataW.Whole enc P f.params.toList s.vars false W args.toList ds gs before) (hb : Below W.heap.size W W')
    (hfn : s.fn H (ds ++ gs) = { results := [.lit (.bool true)], args := ds }) :
    s.post enc P f false true false false W args (.bool true) W' := by
  have hW0 := hW
  obtain ⟨p, q, hA, hV, hpq, hfz, hnd⟩ := hW
  refine ⟨ds, gs, before, [], p, [], hW0, ?_, ?_, ?_, hb.frame _, fun h => by cases h⟩
  · rw [hfn, hres]
    exact trodAll_cons_mk (shut_bool htb true) trodAll_mk0
  · rw [hfn]
    refine trodAll_stays hl hb _ _ _ _ hr hA (fun x hx => ?_)
    exact hW0.lt x (by rw [hpq]; simp [hx])
  · rw [hvars, hfn]
    rfl
theorem nil_any (W : World) (a : Int) (ha : -9223372036854775808 ≤ a ∧ a ≤ 9223372036854775807) :
    Calls Tryz.prog 3 #[.slice none 0 0, .int .i64 a] W fun e w' => e = .returned (.bool true) ∧ Below W.heap.size W w' := by
  obtain ⟨E, hE⟩ : ∃ E : Env, E = ⟨fun i => a, fun _ => false, fun _ => ⟨0, 0, 0, 0, 0, 0, 0, #[], (0, 0)⟩⟩ := ⟨_, rfl⟩
  have h0 : E.i 0 = a := by rw [hE]
  have := nil_E E W (by rw [h0]; exact ha)
  have hargs : (γL E (fun _ => ⟨0, 0⟩) argsN).toArray = #[.slice none 0 0, .int .i64 a] := by
    rw [hE]
    rfl
  rw [hargs] at this
  exact this
theorem bits_any (W : World) (a : Int) (ha : -9223372036854775808 ≤ a ∧ a ≤ 9223372036854775807) {b off len cap : Nat} {cs : Array Value} {t : TypeId} {fz : Nat × Nat} (hW : W.heap[b]? = some (.cells cs t fz)) {zs : List Int} (hz : len ≤ zs.length)
    (hc : ∀ i, i < zs.length → cs[off + i]? = some (.int .i64 (zs.getD i 0))) (hr : ∀ n ∈ zs, (Lit.int .i64 n).wf = true) :
    Calls Tryz.prog 3 #[.slice (some ⟨b, off, none⟩) len cap, .int .i64 a] W fun e w' => e = .returned (.bool true) ∧ Below W.heap.size W w' := by
  obtain ⟨E, hE⟩ : ∃ E : Env, E = ⟨fun i => if i = 0 then a else len, fun _ => false, fun _ => ⟨b, off, len, cap, 1, 0, t, cs, fz⟩⟩ := ⟨_, rfl⟩
  have h0 : E.i 0 = a := by rw [hE]; rfl
  have h1 : E.i 1 = len := by rw [hE]; rfl
  have hs : E.s 0 = ⟨b, off, len, cap, 1, 0, t, cs, fz⟩ := by rw [hE]
  have := bits_E E W (by rw [h0]; exact ha) (by rw [hs]; exact hW) (by rw [hs]) (by rw [hs, h1]) (D := fun i => zs.getD i 0) (by
    rw [hs]
    intro i hi
    have hi : i < len := hi
    refine ⟨hc i (by omega), ?_⟩
    have hm : zs.getD i 0 ∈ zs := by
      rw [List.getD_eq_getElem?_getD, List.getElem?_eq_getElem (by omega)]
      exact List.getElem_mem _
    have := hr _ hm
    simp [Lit.wf, IntKind.min, IntKind.max, IntKind.signed, IntKind.bits] at this ⊢
    omega)
  have hargs : (γL E (fun _ => ⟨(E.s 0).b, 0⟩) argsR).toArray = #[.slice (some ⟨b, off, none⟩) len cap, .int .i64 a] := by
    rw [hE]
    rfl
  rw [hargs] at this
  exact this
theorem cells_of_has {P : Program} {w : World} {r : Reach} {base : Nat} {a : Addr} {e : TypeId} {n : Nat} (h : w.has P r base a e n) : ∃ b off cs t fz, a = ⟨b, off, none⟩ ∧ w.heap[b]? = some (.cells cs t fz) := by
  obtain ⟨_, h2, row, cells, h3, _⟩ := h
  obtain ⟨b, off, sp⟩ := a
  have h2 : sp = none := h2
  subst h2
  unfold World.shape? at h3
  split at h3
  · rename_i c el fr hh
    exact ⟨b, off, c, el, fr, rfl, hh⟩
  · cases h3
theorem own : ownKnob Tryz.prog.godebug = none := by kernel_rfl
theorem laidOut : laidOutB Tryz.prog = true := by kernel_rfl
set_option maxRecDepth 100000 in
theorem contract (H : Type) (enc : TypeId × Value → H) (W : World) (base : Nat) (args : Array Value) (ds gs : List (DataW H)) (before : List MemPlace)
    (hval0 : ∀ (j : Nat) t v, Tryz.f3.params[j]? = some t → args[j]? = some v → Value.okWide Tryz.prog W .any base t v)
    (hW : DataW.Whole enc Tryz.prog Tryz.f3.params.toList Rows.notesBitsSpec.vars false W args.toList ds gs before) :
    Calls Tryz.prog 3 args W fun e W' => ∃ v, e = .returned v ∧ Rows.notesBitsSpec.post enc Tryz.prog Tryz.f3 false true false false W args v W' := by
  have hval := hval0
  have hW' := hW
  obtain ⟨p, q, hA0, hV, rfl, hfz, hnd⟩ := hW
  have hA : DataW.TrodAll enc Tryz.prog W 0 (fun _ => true) true Tryz.f3.params.toList args.toList ds p := hA0
  rw [Tryz.params3] at hA hval
  obtain ⟨v0, vs0, d0, ds0, p0, q0, hargs, rfl, rfl, h0, r0⟩ := trodAll_cons hA
  obtain ⟨v1, vs1, d1, ds1, p1, q1, rfl, rfl, rfl, h1, r1⟩ := trodAll_cons r0
  obtain ⟨rfl, rfl, rfl⟩ := trodAll_nil r1
  obtain rfl : args = #[v0, v1] := by cases args; simp_all
  obtain ⟨a, rfl, rfl, rfl, wa⟩ := open_int Tryz.underlying3 (hval 1 3 v1 rfl rfl) h1
  have ba : -9223372036854775808 ≤ a ∧ a ≤ 9223372036854775807 := by simp [Lit.wf, IntKind.min, IntKind.max, IntKind.signed, IntKind.bits] at wa; omega
  obtain ⟨rfl, rfl⟩ := trodVars_none hV
  have hrun : Calls Tryz.prog 3 #[v0, .int .i64 a] W fun e w' => e = .returned (.bool true) ∧ Below W.heap.size W w' := by
    have hv := hval 0 22 _ rfl rfl
    obtain ⟨a0, len0, cap0, rfl⟩ := okWide_slice Tryz.underlying22 hv
    obtain ⟨fuel, hf⟩ := h0
    have hc1 : Tryz.prog.cellsOf 3 = 1 := by kernel_rfl
    rcases open_ints Tryz.underlying22 Tryz.underlying3 hc1 hf with ⟨he, _⟩ | ⟨ad, len, cap, zs, he, _, hlc, _, hzl, _, hcell, hwf⟩
    · simp only [Value.cells] at he
      injection he with he _
      injection he with e1 e2 e3
      subst e1; subst e2; subst e3
      exact nil_any W a ba
    · simp only [Value.cells] at he
      injection he with he _
      injection he with e1 e2 e3
      subst e1; subst e2; subst e3
      have hh : W.has Tryz.prog .any base ad 3 cap0 := by
        unfold Value.okWide at hv
        rw [Tryz.underlying22] at hv
        simp only [Cell.okWide] at hv
        rw [Tryz.underlying22] at hv
        simp only [Cell.ok] at hv
        rw [Tryz.underlying22] at hv
        exact hv.2.2
      obtain ⟨b, off, cs, t, fz, rfl, hb⟩ := cells_of_has hh
      refine bits_any W a ba hb (zs := zs) (by rw [hzl]; simp; omega) (fun i hi => ?_) hwf
      have := hcell i hi
      rw [addr_add] at this
      simpa [World.cell?, hb] using this
  refine hrun.mono fun e W' ⟨he, hk⟩ => ?_
  subst he
  refine ⟨_, rfl, law_post laidOut ?_ rfl rfl Tryz.underlying4 hW' hk rfl⟩
  rw [Tryz.params3]
  intro t ht
  simp only [List.mem_cons, List.not_mem_nil, or_false] at ht
  rcases ht with rfl | rfl
  all_goals exact ⟨by kernel_rfl, of_decide_eq_true (by kernel_rfl)⟩
set_option maxRecDepth 100000 in
theorem lifted (os : Os) (started : os.Started) (H : Type) (enc : TypeId × Value → H) :
    ReturnsInHanded {} Tryz.checked os 3 .any (Rows.notesBitsSpec.pre6 enc Tryz.prog Tryz.f3 Rows.notesBitsRow.domain false) (Rows.notesBitsSpec.post enc Tryz.prog Tryz.f3 false true false false) := by
  refine returnsInHanded_of_change (C := Tryz.checked) own started (by kernel_rfl) Tryz.func3
    (ChangeSpec.witness6 (enc := enc) (C := Tryz.checked) false ⟨#[], #[.slice none 0 0, .int .i64 0], []⟩ 8 (by kernel_rfl) (by kernel_rfl) (by kernel_rfl) (by kernel_rfl)) ?_
  intro W base args ds gs before hval0 hW hcnd _
  exact contract H enc W base args ds gs before hval0 hW
theorem said : Rows.NotesBitsSaid :=
  OpenClaim.holds_of_wide 3 Tryz.f3 rfl rfl rfl rfl rfl rfl rfl ⟨rfl, rfl, rfl, rfl, rfl⟩ rfl rfl rfl rfl rfl (by kernel_rfl) Tryz.func3 (by kernel_rfl)
    (of_decide_eq_true (by kernel_rfl)) (by unfold Func.isWrapper; first | (rw [if_pos (by decide +kernel)]; kernel_rfl) | (rw [if_neg (by decide +kernel)]; exact ⟨rfl, rfl⟩))
    (fun os started H enc _ => lifted os started H enc)
#print axioms said
end Go.Proofs.YtfgldnbccopplaaGreat
end
