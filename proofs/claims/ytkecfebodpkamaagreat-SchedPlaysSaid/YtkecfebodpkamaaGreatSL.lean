/-
  SchedPlays: the law, of any acts.
-/
import Derived.Test.YtkecfebodpkamaaGreatSPx
import Derived.Test.YtkecfebodpkamaaGreatSQ
set_option linter.unusedSimpArgs false
set_option linter.unusedVariables false
set_option maxRecDepth 100000
noncomputable section
namespace Go.Ev.X
open Go Go.Ev Go.Proofs
variable {E : Env}
theorem fG_ok {B : Int} {j : Nat} (hl : Live j E) (h1 : E.i 2 < E.i 1) (h2 : E.i 2 < B) : FaOk E ⟨fG B j, []⟩ :=
  fa_list (show FsOk E (fG B j) from ⟨f_lt h1, f_lt h2, hl.2.2.2.1⟩) trivial
theorem sgJ_lead {fr : List (Ky × V)} {B : Int} {m j : Nat} (hj : j < 11) (hj0 : j ≠ 0) (hI : InvA B m j E) (hB : B < 4611686018427387904) : Leads (stG fr) (InvA B) E (nxL (sgJ j)) m := by
  obtain ⟨_, hlen, ⟨D, hD⟩, h20, hm, hl, _, hk⟩ := hI
  obtain ⟨_, _, _, _, f', hok, hp, hr⟩ := hl
  have hk := hk hj0
  have cut : ∀ i, i ≠ 1 → i ≠ 2 → i ≠ 5 → i ≠ 6 → i ≠ 100100 → i ≠ 100200 → sgJ j i = none := fun i a b c d e g => by
    unfold sgJ
    have n : ∀ {x : Nat}, i ≠ x → Nat.beq i x = false := fun {x} h => by rw [Bool.eq_false_iff]; simpa using h
    simp only [sgL, n a, n b, n c, n d, n e, n g]
    rfl
  refine leadA (x := E.i 2 + 1) (s2 := .op .add .i64 (.v 2) (.lit 1)) hok hp hr rfl rfl ?_ (by omega) (by omega) (cut 3 (by omega) (by omega) (by omega) (by omega) (by omega) (by omega)) (cut 4 (by omega) (by omega) (by omega) (by omega) (by omega) (by omega)) (cut 7 (by omega) (by omega) (by omega) (by omega) (by omega) (by omega))
    (cut 300 (by omega) (by omega) (by omega) (by omega) (by omega) (by omega)) (cut 310 (by omega) (by omega) (by omega) (by omega) (by omega) (by omega)) (cut 311 (by omega) (by omega) (by omega) (by omega) (by omega) (by omega)) rfl rfl (cut 100101 (by omega) (by omega) (by omega) (by omega) (by omega) (by omega)) (cut 100201 (by omega) (by omega) (by omega) (by omega) (by omega) (by omega)) hlen hD (by omega)
  show wrapF .i64 (E.i 2 + 1) = _
  rw [wrapF_eq, IntKind.wrap_i64]; omega
theorem sg0_lead {fr : List (Ky × V)} {B : Int} {m : Nat} (h1 : WordsIs (E.s 100).cs 8192 f0) (h2 : WordsIs (E.s 200).cs 8192 f0) (hlen : E.i 1 = (E.s 0).len) {D : Nat → Int × Int × Int} (hD : RowA (E.s 0) D) (hB : 0 ≤ B) (hm : B < m) : Leads (stG fr) (InvA B) E (nxL sg0) m := by
  exact leadA (x := 0) (s2 := .lit 0) okw0 h1 h2 rfl rfl rfl (Int.le_refl 0) hB rfl rfl rfl rfl rfl rfl rfl rfl rfl rfl hlen hD (by omega)
def rhoA (r : Row) : Rho := fun _ => ⟨r.b, 0⟩
theorem hIn_sat {W : World} (hW : W.heap[(E.s 0).b]? = some (.cells (E.s 0).cs (E.s 0).t (E.s 0).fz)) (he : (E.s 0).esz = 3) (hl : E.i 1 = (E.s 0).len) : Sat E (rhoA (E.s 0)) hIn W := by
  have get : ∀ p o, hIn.t.get p = some o → p = .h ∧ o = .row 0 3 (.v 1) (.v 2) [] := by
    intro p o hp
    have hp : ((PT.e : PT O).set .h (.row 0 3 (.v 1) (.v 2) [])).get p = some o := hp
    by_cases e : p = .h
    · subst e
      rw [PT.get_set_same] at hp
      exact ⟨rfl, (Option.some.inj hp).symm⟩
    · rw [PT.get_set_other _ _ _ _ (fun h => e h.symm), PT.get_e] at hp
      cases hp
  refine ⟨fun p o hp => ?_, fun p q o o' hp hq _ _ _ => ?_, fun p o hp => ?_⟩
  · obtain ⟨rfl, rfl⟩ := get p o hp
    exact ⟨rfl, hW, he, hl, fun h => absurd rfl h⟩
  · rw [(get p o hp).1, (get q o' hq).1]
  · obtain ⟨rfl, rfl⟩ := get p o hp
    exact ⟨by decide, trivial⟩
theorem acts_law {F : Nat} {f : Func} {q : CutX} {dr : Nat → Option Dr} (hfn : PP.funcs[F]? = some f) (hc : cutX (tyOf PP) dr f = some q) (hw : drawF dr f = true) {fr : List (Ky × V)} {B : Int} (hB : 0 ≤ B ∧ B < 4611686018427387904)
    (go : ∀ j, j < 10 → runJ (stG fr) q.x q.z (koB q.rs) ⟨callT (cxA (j + 1)) 20, F, 20000⟩ (j + 1) ⟨fG B (j + 1), []⟩ (nxL (sgJ (j + 1))) = 0)
    (out : ∀ b, runJ (stG fr) q.x q.z (koB q.rs) ⟨callT (cxA 0) 20, F, 20000⟩ 0 ⟨fO B b, []⟩ [] = 0)
    (hin : initFr [.fs q1 0] (fun fr' => zIn q.z ⟨inA, F, 20000⟩ fr' hIn ⟨[], []⟩ (fun fr' h _ => nextK (stG fr) (nxL sg0) fr' h) (koB q.rs)) = 0)
    {r : Row} {D : Nat → Int × Int × Int} (hD : RowA r D) {W : World} (hW : W.heap[r.b]? = some (.cells r.cs r.t r.fz)) :
    Calls PP F #[.slice (some ⟨r.b, r.off, none⟩) r.len r.cap] W fun e w' => e = .returned (.bool true) ∧ RowKit.Below W.heap.size W w' := by
  obtain ⟨E, hE⟩ : ∃ E : Env, E = ⟨fun _ => r.len, fun _ => false, fun q => if q = 0 then r else rowF 8192 f0⟩ := ⟨_, rfl⟩
  have s0 : E.s 0 = r := by rw [hE]; rfl
  have i1 : E.i 1 = r.len := by rw [hE]
  have p0 : WordsIs (E.s 100).cs 8192 f0 := by rw [hE]; exact rowF_is _ _
  have r0 : WordsIs (E.s 200).cs 8192 f0 := by rw [hE]; exact rowF_is _ _
  have := cut_law tyOk_tyOf mixedX hfn hc hw (st := stG fr) (gj := fun j => ⟨callT (cxA j) 20, F, 20000⟩) (Inv := InvA B) (fun m j E h => callT_run (cxA_ok h.2.2.2.2.2.1) 20) (fun m j E hI => ?_) (E := E) (g0 := ⟨inA, F, 20000⟩) (inA_ok call1 (call1_ok (lenAll E)) p0 r0) FaOk.nil (B.toNat + 1)
    (sg0_lead p0 r0 (by rw [s0]; exact i1) (by rw [s0]; exact hD) hB.1 (by omega)) hin (hIn_sat (by rw [s0]; exact hW) (by rw [s0]; exact hD.esz) (by rw [s0]; exact i1)) ⟨show (1 : Nat) < 2 by decide, trivial⟩ (fun p o hp _ hlo => ?_)
  · have ha : (γL E (rhoA (E.s 0)) [.fs q1 0]).toArray = #[.slice (some ⟨r.b, r.off, none⟩) r.len r.cap] := by
      simp only [γL, V.γ, s0]
    rw [ha] at this
    exact this
  · have hI' := hI
    obtain ⟨hj, hlen, hDD, h20, hm, hl, hu, hk⟩ := hI
    match j, hj with
    | 0, _ =>
      have hu := hu rfl
      by_cases h : E.i 2 < E.i 1
      · refine ⟨⟨fO B true, []⟩, [], fa_list (show FsOk E (fO B true) from ⟨f_lt h, f_ltn (show B ≤ E.i 2 by omega), trivial⟩) trivial, out true, fun h => absurd rfl h⟩
      · refine ⟨⟨fO B false, []⟩, [], fa_list (show FsOk E (fO B false) from ⟨f_ltn (show E.i 1 ≤ E.i 2 by omega), trivial⟩) trivial, out false, fun h => absurd rfl h⟩
    | j + 1, hj =>
      have hk := hk (by omega)
      exact ⟨_, _, fG_ok hl hk.1 hk.2, go j (by omega), sgJ_lead hj (by omega) hI' hB.2⟩
  · have hp : ((PT.e : PT O).set .h (.row 0 3 (.v 1) (.v 2) [])).get p = some o := hp
    have hlo : 2 ≤ p.toNat := hlo
    by_cases e : p = .h
    · subst e
      have : (Ev.P.h : Ev.P).toNat = 1 := rfl
      omega
    · rw [PT.get_set_other _ _ _ _ (fun h => e h.symm), PT.get_e] at hp
      cases hp
theorem plays_any {r : Row} {D : Nat → Int × Int × Int} (hD : RowA r D) {W : World} (hW : W.heap[r.b]? = some (.cells r.cs r.t r.fz)) :
    Calls PP 7 #[.slice (some ⟨r.b, r.off, none⟩) r.len r.cap] W fun e w' => e = .returned (.bool true) ∧ RowKit.Below W.heap.size W w' :=
  acts_law Tryz.func7 qc7 w7 (fr := frQ) (B := 150) (by decide) (fun j hj => Nat.eq_of_beq_eq_true (rng_ok goQ_ok j hj)) (fun b => match b with | true => outQ_ok.1 | false => outQ_ok.2) inQ_ok hD hW
theorem nilQ_ok : callS cx0 0 (memoS ab (callAx call1)) 7 [.snil] ⟨.h, .h, .e⟩ ⟨[], []⟩ (endV (.b true)) = 0 := by decide +kernel
theorem plays_nil (W : World) : Calls PP 7 #[.slice none 0 0] W fun e w' => e = .returned (.bool true) ∧ RowKit.Below W.heap.size W w' := by
  obtain ⟨E, hE⟩ : ∃ E : Env, E = ⟨fun _ => 0, fun _ => false, fun q => rowF 8192 f0⟩ := ⟨_, rfl⟩
  have := val_of_run (hC0 E) (msS_ok rfl abt FaOk.nil (call1_ok (lenAll E)) (callAx_ok (call1_ok (lenAll E)))) FaOk.nil nilQ_ok (l := [.snil]) ⟨trivial, trivial⟩ (fun _ => ⟨0, 0⟩) W
  exact this.mono fun e w' h => by
    obtain ⟨⟨ρ', h1⟩, h2⟩ := h
    exact ⟨h1, h2⟩
end Go.Ev.X
end
