/-
 SchedPlays: the law, of any acts.
-/
import Derived.Test.YtkecfebodpkamaaGreatSPx
import Derived.Test.YtkecfebodpkamaaGreatSQ
set_option linter.unusedSimpArgs false
set_option linter.unusedVariables false
set_option maxRecDepth 100000
noncomputable section
namespace Go.Ev.X
open Go Go.Ev Go.Proofs
variable {E : Env}
theorem fG_ok {B : Int} {j : Nat} (hl : Live j E) (h1 : E.i 2 < E.i 1) (h2 : E.i 2 < B) : FaOk E ⟨fG B j, []⟩ :=
 fa_list (show FsOk E (fG B j) from ⟨f_lt h1, f_lt h2, hl.2.2.2.1⟩) trivial
def rhoA (r : Row) : Rho := fun _ => ⟨r.b, 0⟩
theorem hIn_sat {W : World} (hW : W.heap[(E.s 0).b]? = some (.cells (E.s 0).cs (E.s 0).t (E.s 0).fz)) (he : (E.s 0).esz = 3) (hl : E.i 1 = (E.s 0).len) : Sat E (rhoA (E.s 0)) hIn W := by
 have get : ∀ p o, hIn.t.get p = some o → p = .h ∧ o = .row 0 3 (.v 1) (.v 2) [] := by
  intro p o hp
  have hp : ((PT.e : PT O).set .h (.row 0 3 (.v 1) (.v 2) [])).get p = some o := hp
  by_cases e : p = .h
  ·subst e
   rw [PT.get_set_same] at hp
   exact ⟨rfl, (Option.some.inj hp).symm⟩
  ·rw [PT.get_set_other _ _ _ _ (fun h => e h.symm), PT.get_e] at hp
   cases hp
 refine ⟨fun p o hp => ?_, fun p q o o' hp hq _ _ _ => ?_, fun p o hp => ?_⟩
 ·obtain ⟨rfl, rfl⟩ := get p o hp
  exact ⟨rfl, hW, he, hl, fun h => absurd rfl h⟩
 ·rw [(get p o hp).1, (get q o' hq).1]
 ·obtain ⟨rfl, rfl⟩ := get p o hp
  exact ⟨by decide, trivial⟩
end Go.Ev.X
end
