/-
 Summaries as hooks; functions that range.
-/
import Derived.Test.YtgaelfnoffejgaaSC
import Derived.Test.YtgaelfnoffejgaaSS0
import Derived.Test.YtgaelfnoffejgaaSS1
set_option linter.unusedSimpArgs false
set_option linter.unusedVariables false
set_option maxRecDepth 100000
noncomputable section
namespace Go.Ev.X
open Go Go.Ev Go.Proofs
def smT13 : Tr (List Sm) := (.node (.node (.node (.node (.node (.node (.node (.node (.node (.node (.node .nil (.node (.node (.leaf s13_1024) .nil) .nil)) .nil) .nil) (.node (.node (.node .nil (.node (.node (.leaf s13_1152) .nil) .nil)) .nil) .nil)) (.node (.node (.node (.node .nil (.node (.node (.leaf s13_1088) .nil) .nil)) .nil) .nil) .nil)) .nil) .nil) .nil) .nil) .nil) .nil)
theorem smT13_ok : TrP (SmsOk mc13 13 call0) smT13 := ⟨⟨⟨⟨⟨⟨⟨⟨⟨⟨⟨trivial, ⟨⟨(smsB_ok s13_1024_ok), trivial⟩, trivial⟩⟩, trivial⟩, trivial⟩, ⟨⟨⟨trivial, ⟨⟨(smsB_ok s13_1152_ok), trivial⟩, trivial⟩⟩, trivial⟩, trivial⟩⟩, ⟨⟨⟨⟨trivial, ⟨⟨(smsB_ok s13_1088_ok), trivial⟩, trivial⟩⟩, trivial⟩, trivial⟩, trivial⟩⟩, trivial⟩, trivial⟩, trivial⟩, trivial⟩, trivial⟩, trivial⟩
def sm13 : List V → H → Fa → K → Nat := smHook mc13 (ssT smT13) 13 call0
def smT28 : Tr (List Sm) := (.node (.node (.node (.node (.node (.node (.node (.node (.node (.node (.node .nil (.node (.node (.leaf s28_1024) .nil) .nil)) .nil) (.node (.node .nil (.node (.node (.leaf s28_1280) .nil) .nil)) .nil)) (.node (.node (.node .nil (.node (.node (.leaf s28_1152) .nil) .nil)) .nil) (.node (.node .nil (.node (.node (.leaf s28_1408) .nil) .nil)) .nil))) (.node (.node (.node (.node .nil (.node (.node (.leaf s28_1088) .nil) .nil)) .nil) (.node (.node .nil (.node (.node (.leaf s28_1344) .nil) .nil)) .nil)) (.node (.node (.node .nil (.node (.node (.leaf s28_1216) .nil) .nil)) .nil) (.node (.node .nil (.node (.node (.leaf s28_1472) .nil) .nil)) .nil)))) .nil) .nil) .nil) .nil) .nil) .nil)
theorem smT28_ok : TrP (SmsOk mc28 28 call0) smT28 := ⟨⟨⟨⟨⟨⟨⟨⟨⟨⟨⟨trivial, ⟨⟨(smsB_ok s28_1024_ok), trivial⟩, trivial⟩⟩, trivial⟩, ⟨⟨trivial, ⟨⟨(smsB_ok s28_1280_ok), trivial⟩, trivial⟩⟩, trivial⟩⟩, ⟨⟨⟨trivial, ⟨⟨(smsB_ok s28_1152_ok), trivial⟩, trivial⟩⟩, trivial⟩, ⟨⟨trivial, ⟨⟨(smsB_ok s28_1408_ok), trivial⟩, trivial⟩⟩, trivial⟩⟩⟩, ⟨⟨⟨⟨trivial, ⟨⟨(smsB_ok s28_1088_ok), trivial⟩, trivial⟩⟩, trivial⟩, ⟨⟨trivial, ⟨⟨(smsB_ok s28_1344_ok), trivial⟩, trivial⟩⟩, trivial⟩⟩, ⟨⟨⟨trivial, ⟨⟨(smsB_ok s28_1216_ok), trivial⟩, trivial⟩⟩, trivial⟩, ⟨⟨trivial, ⟨⟨(smsB_ok s28_1472_ok), trivial⟩, trivial⟩⟩, trivial⟩⟩⟩⟩, trivial⟩, trivial⟩, trivial⟩, trivial⟩, trivial⟩, trivial⟩
def sm28 : List V → H → Fa → K → Nat := smHook mc28 (ssT smT28) 28 call0
def smT38 : Tr (List Sm) := (.node (.node (.node (.node .nil (.node (.node (.node (.node (.node (.node (.node (.node (.node (.leaf s38_8) .nil) .nil) .nil) .nil) .nil) .nil) (.node .nil (.node .nil (.node (.node (.node (.node (.leaf s38_456) .nil) .nil) .nil) .nil)))) .nil) .nil)) (.node (.node (.node (.node (.node (.node (.node (.node (.node (.node (.leaf s38_4) .nil) .nil) .nil) .nil) .nil) .nil) .nil) .nil) .nil) .nil)) .nil) (.node (.node .nil (.node (.node (.node (.node (.node (.node .nil (.node (.node (.node (.node (.leaf s38_261) .nil) .nil) .nil) .nil)) .nil) .nil) .nil) .nil) .nil)) (.node (.node .nil (.node (.node (.node (.node (.node (.node (.node (.node (.node (.leaf s38_11) .nil) .nil) .nil) .nil) .nil) .nil) .nil) .nil) .nil)) .nil)))
theorem smT38_ok : TrP (SmsOk mc38 38 call0) smT38 := ⟨⟨⟨⟨trivial, ⟨⟨⟨⟨⟨⟨⟨⟨⟨(smsB_ok s38_8_ok), trivial⟩, trivial⟩, trivial⟩, trivial⟩, trivial⟩, trivial⟩, ⟨trivial, ⟨trivial, ⟨⟨⟨⟨(smsB_ok s38_456_ok), trivial⟩, trivial⟩, trivial⟩, trivial⟩⟩⟩⟩, trivial⟩, trivial⟩⟩, ⟨⟨⟨⟨⟨⟨⟨⟨⟨⟨(smsB_ok s38_4_ok), trivial⟩, trivial⟩, trivial⟩, trivial⟩, trivial⟩, trivial⟩, trivial⟩, trivial⟩, trivial⟩, trivial⟩⟩, trivial⟩, ⟨⟨trivial, ⟨⟨⟨⟨⟨⟨trivial, ⟨⟨⟨⟨(smsB_ok s38_261_ok), trivial⟩, trivial⟩, trivial⟩, trivial⟩⟩, trivial⟩, trivial⟩, trivial⟩, trivial⟩, trivial⟩⟩, ⟨⟨trivial, ⟨⟨⟨⟨⟨⟨⟨⟨⟨(smsB_ok s38_11_ok), trivial⟩, trivial⟩, trivial⟩, trivial⟩, trivial⟩, trivial⟩, trivial⟩, trivial⟩, trivial⟩⟩, trivial⟩⟩⟩
def sm38 : List V → H → Fa → K → Nat := smHook mc38 (ssT smT38) 38 call0
def smT53 : Tr (List Sm) := (.node (.node (.node (.node .nil (.node (.node (.node (.node (.node (.node (.node (.node (.node (.leaf s53_8) .nil) .nil) .nil) .nil) .nil) .nil) (.node .nil (.node .nil (.node (.node (.node (.node (.leaf s53_456) .nil) .nil) .nil) .nil)))) .nil) .nil)) (.node (.node (.node (.node (.node (.node (.node (.node (.node (.node (.leaf s53_4) .nil) .nil) .nil) .nil) .nil) .nil) .nil) .nil) .nil) .nil)) .nil) (.node (.node .nil (.node (.node (.node (.node (.node (.node .nil (.node (.node (.node (.node (.leaf s53_261) .nil) .nil) .nil) .nil)) .nil) .nil) .nil) .nil) .nil)) (.node (.node .nil (.node (.node (.node (.node (.node (.node (.node (.node (.node (.leaf s53_11) .nil) .nil) .nil) .nil) .nil) .nil) .nil) .nil) .nil)) .nil)))
theorem smT53_ok : TrP (SmsOk mc53 53 call0) smT53 := ⟨⟨⟨⟨trivial, ⟨⟨⟨⟨⟨⟨⟨⟨⟨(smsB_ok s53_8_ok), trivial⟩, trivial⟩, trivial⟩, trivial⟩, trivial⟩, trivial⟩, ⟨trivial, ⟨trivial, ⟨⟨⟨⟨(smsB_ok s53_456_ok), trivial⟩, trivial⟩, trivial⟩, trivial⟩⟩⟩⟩, trivial⟩, trivial⟩⟩, ⟨⟨⟨⟨⟨⟨⟨⟨⟨⟨(smsB_ok s53_4_ok), trivial⟩, trivial⟩, trivial⟩, trivial⟩, trivial⟩, trivial⟩, trivial⟩, trivial⟩, trivial⟩, trivial⟩⟩, trivial⟩, ⟨⟨trivial, ⟨⟨⟨⟨⟨⟨trivial, ⟨⟨⟨⟨(smsB_ok s53_261_ok), trivial⟩, trivial⟩, trivial⟩, trivial⟩⟩, trivial⟩, trivial⟩, trivial⟩, trivial⟩, trivial⟩⟩, ⟨⟨trivial, ⟨⟨⟨⟨⟨⟨⟨⟨⟨(smsB_ok s53_11_ok), trivial⟩, trivial⟩, trivial⟩, trivial⟩, trivial⟩, trivial⟩, trivial⟩, trivial⟩, trivial⟩⟩, trivial⟩⟩⟩
def sm53 : List V → H → Fa → K → Nat := smHook mc53 (ssT smT53) 53 call0
def smX (F : Nat) : Option (List V → H → Fa → K → Nat) := (bc (Nat.beq F 13) (some sm13) (bc (Nat.beq F 28) (some sm28) (bc (Nat.beq F 38) (some sm38) (bc (Nat.beq F 53) (some sm53) none))))
def cx1 : Cx := ⟨fnX, fun F => bc (Nat.beq F 62) (some lenX) (smX F), 20000⟩
def call1 : CallT := callT cx1 100
variable {E : Env}
def LenOk (E : Env) : Prop := CallOk E Try.prog (fun G l h fa k => bc (Nat.beq G 62) (lenX l h fa k) 1)
def LenA (E : Env) : Prop := ∀ E' : Env, (∀ q, q ≠ 7 → E'.s q = E.s q) → LenOk E'
theorem LenA.one (h : LenA E) : LenOk E := h E (fun _ _ => rfl)
theorem hookOne {C : Nat → Option (List V → H → Fa → K → Nat)} {a : Nat} {s : List V → H → Fa → K → Nat} (hs : CallOk E Try.prog (fun G l h fa k => bc (Nat.beq G a) (s l h fa k) 1))
  (hC : ∀ F t, C F = some t → CallOk E Try.prog (fun G l h fa k => bc (Nat.beq G F) (t l h fa k) 1)) : ∀ F t, bc (Nat.beq F a) (some s) (C F) = some t → CallOk E Try.prog (fun G l h fa k => bc (Nat.beq G F) (t l h fa k) 1) := by
 intro F t h
 cases e : Nat.beq F a with
 | true =>
  rw [e] at h
  have h : some s = some t := h
  cases h
  have e : F = a := by simpa using e
  subst e
  exact hs
 | false => rw [e] at h; exact hC F t h
theorem hookNone : ∀ F t, (none : Option (List V → H → Fa → K → Nat)) = some t → CallOk E Try.prog (fun G l h fa k => bc (Nat.beq G F) (t l h fa k) 1) := fun F t h => by cases h
theorem cx0_ok (hlen : LenOk E) : CxOk E Try.prog (tyOf Try.prog) cx0 := ⟨tyOk_tyOf, mixedX, fun F i h => fnX_ok h, hookOne (C := fun _ => none) hlen hookNone⟩
theorem call0_ok (hlen : LenOk E) : CallOk E Try.prog call0 := callT_run (cx0_ok hlen) 100
theorem smX_ok (hlen : LenA E) : ∀ F t, smX F = some t → CallOk E Try.prog (fun G l h fa k => bc (Nat.beq G F) (t l h fa k) 1) := hookOne (C := fun F => (bc (Nat.beq F 28) (some sm28) (bc (Nat.beq F 38) (some sm38) (bc (Nat.beq F 53) (some sm53) none)))) (ss_ok (fun E' h => call0_ok (hlen E' h)) smT13_ok) (hookOne (C := fun F => (bc (Nat.beq F 38) (some sm38) (bc (Nat.beq F 53) (some sm53) none))) (ss_ok (fun E' h => call0_ok (hlen E' h)) smT28_ok) (hookOne (C := fun F => (bc (Nat.beq F 53) (some sm53) none)) (ss_ok (fun E' h => call0_ok (hlen E' h)) smT38_ok) (hookOne (C := fun F => none) (ss_ok (fun E' h => call0_ok (hlen E' h)) smT53_ok) (hookNone))))
theorem cx1_ok (hlen : LenA E) : CxOk E Try.prog (tyOf Try.prog) cx1 := ⟨tyOk_tyOf, mixedX, fun F i h => fnX_ok h, hookOne (C := smX) hlen.one (smX_ok hlen)⟩
theorem call1_ok (hlen : LenA E) : CallOk E Try.prog call1 := callT_run (cx1_ok hlen) 100
end Go.Ev.X
end
