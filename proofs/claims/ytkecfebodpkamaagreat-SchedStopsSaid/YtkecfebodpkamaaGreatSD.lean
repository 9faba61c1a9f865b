/-
 Summaries as hooks; functions that range.
-/
import Derived.Test.YtkecfebodpkamaaGreatSC
import Derived.Test.YtkecfebodpkamaaGreatSS0
set_option linter.unusedSimpArgs false
set_option linter.unusedVariables false
set_option maxRecDepth 100000
noncomputable section
namespace Go.Ev.X
open Go Go.Ev Go.Proofs
def smT18 : Tr (List Sm) := (.node (.node (.node (.node (.node (.node (.node (.node (.node (.node (.node .nil (.node (.node (.leaf s18_1024) .nil) .nil)) .nil) .nil) .nil) (.node (.node (.node (.node .nil (.node (.node (.leaf s18_1088) .nil) .nil)) .nil) .nil) .nil)) .nil) .nil) .nil) .nil) .nil) .nil)
theorem smT18_ok : TrP (SmsOk mc18 18 call0) smT18 := ⟨⟨⟨⟨⟨⟨⟨⟨⟨⟨⟨trivial, ⟨⟨(smsB_ok s18_1024_ok), trivial⟩, trivial⟩⟩, trivial⟩, trivial⟩, trivial⟩, ⟨⟨⟨⟨trivial, ⟨⟨(smsB_ok s18_1088_ok), trivial⟩, trivial⟩⟩, trivial⟩, trivial⟩, trivial⟩⟩, trivial⟩, trivial⟩, trivial⟩, trivial⟩, trivial⟩, trivial⟩
def sm18 : List V → H → Fa → K → Nat := smHook mc18 (ssT smT18) 18 call0
def smT44 : Tr (List Sm) := (.node (.node (.node (.node .nil (.node (.node (.node (.node (.node (.node (.node (.node (.node (.leaf s44_8) .nil) .nil) .nil) .nil) .nil) .nil) (.node .nil (.node .nil (.node (.node (.node (.node (.leaf s44_456) .nil) .nil) .nil) .nil)))) .nil) .nil)) (.node (.node (.node (.node (.node (.node (.node (.node (.node (.node (.leaf s44_4) .nil) .nil) .nil) .nil) .nil) .nil) .nil) .nil) .nil) .nil)) (.node (.node .nil (.node (.node (.node (.node (.node .nil (.node (.node (.node (.node (.leaf s44_266) .nil) .nil) .nil) .nil)) .nil) .nil) .nil) .nil)) .nil)) (.node (.node (.node (.node (.node (.node (.node (.node (.node (.node (.node (.node (.leaf s44_1) .nil) .nil) .nil) .nil) .nil) .nil) .nil) .nil) .nil) .nil) .nil) (.node (.node .nil (.node (.node (.node (.node (.node (.node (.node (.node (.node (.leaf s44_11) .nil) .nil) .nil) .nil) .nil) .nil) .nil) .nil) .nil)) .nil)))
theorem smT44_ok : TrP (SmsOk mc44 44 call0) smT44 := ⟨⟨⟨⟨trivial, ⟨⟨⟨⟨⟨⟨⟨⟨⟨(smsB_ok s44_8_ok), trivial⟩, trivial⟩, trivial⟩, trivial⟩, trivial⟩, trivial⟩, ⟨trivial, ⟨trivial, ⟨⟨⟨⟨(smsB_ok s44_456_ok), trivial⟩, trivial⟩, trivial⟩, trivial⟩⟩⟩⟩, trivial⟩, trivial⟩⟩, ⟨⟨⟨⟨⟨⟨⟨⟨⟨⟨(smsB_ok s44_4_ok), trivial⟩, trivial⟩, trivial⟩, trivial⟩, trivial⟩, trivial⟩, trivial⟩, trivial⟩, trivial⟩, trivial⟩⟩, ⟨⟨trivial, ⟨⟨⟨⟨⟨trivial, ⟨⟨⟨⟨(smsB_ok s44_266_ok), trivial⟩, trivial⟩, trivial⟩, trivial⟩⟩, trivial⟩, trivial⟩, trivial⟩, trivial⟩⟩, trivial⟩⟩, ⟨⟨⟨⟨⟨⟨⟨⟨⟨⟨⟨⟨(smsB_ok s44_1_ok), trivial⟩, trivial⟩, trivial⟩, trivial⟩, trivial⟩, trivial⟩, trivial⟩, trivial⟩, trivial⟩, trivial⟩, trivial⟩, ⟨⟨trivial, ⟨⟨⟨⟨⟨⟨⟨⟨⟨(smsB_ok s44_11_ok), trivial⟩, trivial⟩, trivial⟩, trivial⟩, trivial⟩, trivial⟩, trivial⟩, trivial⟩, trivial⟩⟩, trivial⟩⟩⟩
def sm44 : List V → H → Fa → K → Nat := smHook mc44 (ssT smT44) 44 call0
def smT66 : Tr (List Sm) := (.node (.node (.node (.node (.node (.node (.node (.node (.node (.node (.node .nil (.node (.node (.leaf s66_1024) .nil) .nil)) .nil) .nil) .nil) (.node (.node (.node (.node .nil (.node (.node (.leaf s66_1088) .nil) .nil)) .nil) .nil) .nil)) .nil) .nil) .nil) .nil) .nil) .nil)
theorem smT66_ok : TrP (SmsOk mc66 66 call0) smT66 := ⟨⟨⟨⟨⟨⟨⟨⟨⟨⟨⟨trivial, ⟨⟨(smsB_ok s66_1024_ok), trivial⟩, trivial⟩⟩, trivial⟩, trivial⟩, trivial⟩, ⟨⟨⟨⟨trivial, ⟨⟨(smsB_ok s66_1088_ok), trivial⟩, trivial⟩⟩, trivial⟩, trivial⟩, trivial⟩⟩, trivial⟩, trivial⟩, trivial⟩, trivial⟩, trivial⟩, trivial⟩
def sm66 : List V → H → Fa → K → Nat := smHook mc66 (ssT smT66) 66 call0
def smT87 : Tr (List Sm) := (.node (.node (.node (.node .nil (.node (.node (.node (.node (.node (.node (.node (.node (.node (.leaf s87_8) .nil) .nil) .nil) .nil) .nil) .nil) (.node .nil (.node .nil (.node (.node (.node (.node (.leaf s87_456) .nil) .nil) .nil) .nil)))) .nil) .nil)) (.node (.node (.node (.node (.node (.node (.node (.node (.node (.node (.leaf s87_4) .nil) .nil) .nil) .nil) .nil) .nil) .nil) .nil) .nil) .nil)) (.node (.node .nil (.node (.node (.node (.node (.node .nil (.node (.node (.node (.node (.leaf s87_266) .nil) .nil) .nil) .nil)) .nil) .nil) .nil) .nil)) .nil)) (.node (.node (.node (.node (.node (.node (.node (.node (.node (.node (.node (.node (.leaf s87_1) .nil) .nil) .nil) .nil) .nil) .nil) .nil) .nil) .nil) .nil) .nil) (.node (.node .nil (.node (.node (.node (.node (.node (.node (.node (.node (.node (.leaf s87_11) .nil) .nil) .nil) .nil) .nil) .nil) .nil) .nil) .nil)) .nil)))
theorem smT87_ok : TrP (SmsOk mc87 87 call0) smT87 := ⟨⟨⟨⟨trivial, ⟨⟨⟨⟨⟨⟨⟨⟨⟨(smsB_ok s87_8_ok), trivial⟩, trivial⟩, trivial⟩, trivial⟩, trivial⟩, trivial⟩, ⟨trivial, ⟨trivial, ⟨⟨⟨⟨(smsB_ok s87_456_ok), trivial⟩, trivial⟩, trivial⟩, trivial⟩⟩⟩⟩, trivial⟩, trivial⟩⟩, ⟨⟨⟨⟨⟨⟨⟨⟨⟨⟨(smsB_ok s87_4_ok), trivial⟩, trivial⟩, trivial⟩, trivial⟩, trivial⟩, trivial⟩, trivial⟩, trivial⟩, trivial⟩, trivial⟩⟩, ⟨⟨trivial, ⟨⟨⟨⟨⟨trivial, ⟨⟨⟨⟨(smsB_ok s87_266_ok), trivial⟩, trivial⟩, trivial⟩, trivial⟩⟩, trivial⟩, trivial⟩, trivial⟩, trivial⟩⟩, trivial⟩⟩, ⟨⟨⟨⟨⟨⟨⟨⟨⟨⟨⟨⟨(smsB_ok s87_1_ok), trivial⟩, trivial⟩, trivial⟩, trivial⟩, trivial⟩, trivial⟩, trivial⟩, trivial⟩, trivial⟩, trivial⟩, trivial⟩, ⟨⟨trivial, ⟨⟨⟨⟨⟨⟨⟨⟨⟨(smsB_ok s87_11_ok), trivial⟩, trivial⟩, trivial⟩, trivial⟩, trivial⟩, trivial⟩, trivial⟩, trivial⟩, trivial⟩⟩, trivial⟩⟩⟩
def sm87 : List V → H → Fa → K → Nat := smHook mc87 (ssT smT87) 87 call0
def smX (F : Nat) : Option (List V → H → Fa → K → Nat) := (bc (Nat.beq F 18) (some sm18) (bc (Nat.beq F 44) (some sm44) (bc (Nat.beq F 66) (some sm66) (bc (Nat.beq F 87) (some sm87) none))))
def cx1 : Cx := ⟨fnX, fun F => bc (Nat.beq F 82) (some lenX) (smX F), 20000⟩
def call1 : CallT := callT cx1 100
variable {E : Env}
def LenOk (E : Env) : Prop := CallOk E Tryz.prog (fun G l h fa k => bc (Nat.beq G 82) (lenX l h fa k) 1)
def LenA (E : Env) : Prop := ∀ E' : Env, (∀ q, q ≠ 7 → E'.s q = E.s q) → LenOk E'
theorem LenA.one (h : LenA E) : LenOk E := h E (fun _ _ => rfl)
theorem hookOne {C : Nat → Option (List V → H → Fa → K → Nat)} {a : Nat} {s : List V → H → Fa → K → Nat} (hs : CallOk E Tryz.prog (fun G l h fa k => bc (Nat.beq G a) (s l h fa k) 1))
  (hC : ∀ F t, C F = some t → CallOk E Tryz.prog (fun G l h fa k => bc (Nat.beq G F) (t l h fa k) 1)) : ∀ F t, bc (Nat.beq F a) (some s) (C F) = some t → CallOk E Tryz.prog (fun G l h fa k => bc (Nat.beq G F) (t l h fa k) 1) := by
 intro F t h
 cases e : Nat.beq F a with
 | true =>
  rw [e] at h
  have h : some s = some t := h
  cases h
  have e : F = a := by simpa using e
  subst e
  exact hs
 | false => rw [e] at h; exact hC F t h
theorem hookNone : ∀ F t, (none : Option (List V → H → Fa → K → Nat)) = some t → CallOk E Tryz.prog (fun G l h fa k => bc (Nat.beq G F) (t l h fa k) 1) := fun F t h => by cases h
theorem cx0_ok (hlen : LenOk E) : CxOk E Tryz.prog (tyOf Tryz.prog) cx0 := ⟨tyOk_tyOf, mixedX, fun F i h => fnX_ok h, hookOne (C := fun _ => none) hlen hookNone⟩
theorem call0_ok (hlen : LenOk E) : CallOk E Tryz.prog call0 := callT_run (cx0_ok hlen) 100
theorem smX_ok (hlen : LenA E) : ∀ F t, smX F = some t → CallOk E Tryz.prog (fun G l h fa k => bc (Nat.beq G F) (t l h fa k) 1) := hookOne (C := fun F => (bc (Nat.beq F 44) (some sm44) (bc (Nat.beq F 66) (some sm66) (bc (Nat.beq F 87) (some sm87) none)))) (ss_ok (fun E' h => call0_ok (hlen E' h)) smT18_ok) (hookOne (C := fun F => (bc (Nat.beq F 66) (some sm66) (bc (Nat.beq F 87) (some sm87) none))) (ss_ok (fun E' h => call0_ok (hlen E' h)) smT44_ok) (hookOne (C := fun F => (bc (Nat.beq F 87) (some sm87) none)) (ss_ok (fun E' h => call0_ok (hlen E' h)) smT66_ok) (hookOne (C := fun F => none) (ss_ok (fun E' h => call0_ok (hlen E' h)) smT87_ok) (hookNone))))
theorem cx1_ok (hlen : LenA E) : CxOk E Tryz.prog (tyOf Tryz.prog) cx1 := ⟨tyOk_tyOf, mixedX, fun F i h => fnX_ok h, hookOne (C := smX) hlen.one (smX_ok hlen)⟩
theorem call1_ok (hlen : LenA E) : CallOk E Tryz.prog call1 := callT_run (cx1_ok hlen) 100
end Go.Ev.X
end
