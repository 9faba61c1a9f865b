/-
  A call behind which a run goes on in cases.
-/
import Derived.Test.YtapeacnagpphjaaGreatE4
set_option linter.unusedSimpArgs false
set_option linter.unusedVariables false
noncomputable section
namespace Go.Ev
open Go
variable {E : Env} {P : Program}
def allK (cs : List (List (SB × Bool) × CallT)) (F : Nat) (l : List V) (h : H) (fa : Fa) (k : K) : Nat := lRec 0 (fun c _ ih => pc c (fun x f => both (f F l h ⟨x ++ fa.l, fa.r⟩ k) ih)) cs
def splitC (G : Nat) (cs : List (List (SB × Bool) × CallT)) (inner : CallT) : CallT := fun F l h fa k => bc (Nat.beq F G) (allK cs F l h fa k) (inner F l h fa k)
theorem allK_ok {F : Nat} {l : List V} {h : H} {fa : Fa} {k : K} : ∀ {cs : List (List (SB × Bool) × CallT)}, allK cs F l h fa k = 0 → ∀ c ∈ cs, c.2 F l h ⟨c.1 ++ fa.l, fa.r⟩ k = 0
  | [], _, c, hc => by cases hc
  | (x, f) :: r, hk, c, hc => by
    have hk : both (f F l h ⟨x ++ fa.l, fa.r⟩ k) (allK r F l h fa k) = 0 := hk
    obtain ⟨h1, h2⟩ := both_zero hk
    rcases List.mem_cons.1 hc with e | e
    · rw [e]; exact h1
    · exact allK_ok h2 c e
theorem splitC_ok {G : Nat} {cs : List (List (SB × Bool) × CallT)} {inner : CallT} (hi : CallOk E P inner) (hc : ∃ c ∈ cs, (∀ s b, (s, b) ∈ c.1 → s.den E = b) ∧ CallOk E P c.2) : CallOk E P (splitC G cs inner) := by
  intro F l h fa k hk hfa
  have hk : bc (Nat.beq F G) (allK cs F l h fa k) (inner F l h fa k) = 0 := hk
  cases e : Nat.beq F G with
  | false => rw [e] at hk; exact hi F l h fa k hk hfa
  | true =>
    rw [e] at hk
    have hk : allK cs F l h fa k = 0 := hk
    obtain ⟨c, hm, ht, hok⟩ := hc
    exact hok F l h _ k (allK_ok hk c hm) ⟨fun s b hs => by
      rcases List.mem_append.1 hs with h1 | h1
      · exact ht s b h1
      · exact hfa.l s b h1, hfa.r⟩
end Go.Ev
end
