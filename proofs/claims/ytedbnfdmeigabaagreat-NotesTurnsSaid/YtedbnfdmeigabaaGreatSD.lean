/-
  Summaries as hooks; functions that range.
-/
import Derived.Test.YtedbnfdmeigabaaGreatSC
import Derived.Test.YtedbnfdmeigabaaGreatSS0
import Derived.Test.YtedbnfdmeigabaaGreatSS1
set_option linter.unusedSimpArgs false
set_option linter.unusedVariables false
set_option maxRecDepth 100000
noncomputable section
namespace Go.Ev.X
open Go Go.Ev Go.Proofs
def smT16 : Tr (List Sm) := (.node (.node (.node (.node (.node (.node (.node (.node (.node (.node (.node .nil (.node (.node (.leaf s16_1024) .nil) .nil)) .nil) .nil) (.node (.node (.node .nil (.node (.node (.leaf s16_1152) .nil) .nil)) .nil) .nil)) (.node (.node (.node (.node .nil (.node (.node (.leaf s16_1088) .nil) .nil)) .nil) .nil) (.node (.node (.node .nil (.node (.node (.leaf s16_1216) .nil) .nil)) .nil) .nil))) .nil) .nil) .nil) .nil) .nil) .nil)
theorem smT16_ok : TrP (SmsOk mc16 16 call0) smT16 := ⟨⟨⟨⟨⟨⟨⟨⟨⟨⟨⟨trivial, ⟨⟨(smsB_ok s16_1024_ok), trivial⟩, trivial⟩⟩, trivial⟩, trivial⟩, ⟨⟨⟨trivial, ⟨⟨(smsB_ok s16_1152_ok), trivial⟩, trivial⟩⟩, trivial⟩, trivial⟩⟩, ⟨⟨⟨⟨trivial, ⟨⟨(smsB_ok s16_1088_ok), trivial⟩, trivial⟩⟩, trivial⟩, trivial⟩, ⟨⟨⟨trivial, ⟨⟨(smsB_ok s16_1216_ok), trivial⟩, trivial⟩⟩, trivial⟩, trivial⟩⟩⟩, trivial⟩, trivial⟩, trivial⟩, trivial⟩, trivial⟩, trivial⟩
def sm16 : List V → H → Fa → K → Nat := smHook mc16 (ssT smT16) 16 call0
def smT17 : Tr (List Sm) := (.node (.node (.node (.node (.node (.node (.node .nil (.node (.node (.node (.node .nil (.node .nil (.node (.leaf s17_3136) .nil))) .nil) .nil) .nil)) .nil) .nil) .nil) .nil) .nil) .nil)
theorem smT17_ok : TrP (SmsOk mc17 17 call0) smT17 := ⟨⟨⟨⟨⟨⟨⟨trivial, ⟨⟨⟨⟨trivial, ⟨trivial, ⟨(smsB_ok s17_3136_ok), trivial⟩⟩⟩, trivial⟩, trivial⟩, trivial⟩⟩, trivial⟩, trivial⟩, trivial⟩, trivial⟩, trivial⟩, trivial⟩
def sm17 : List V → H → Fa → K → Nat := smHook mc17 (ssT smT17) 17 call0
def smT35 : Tr (List Sm) := (.node (.node (.node (.node (.node (.node (.node (.node (.node (.node (.node .nil (.node (.node (.leaf s35_1024) .nil) .nil)) .nil) .nil) .nil) .nil) .nil) .nil) .nil) .nil) .nil) .nil)
theorem smT35_ok : TrP (SmsOk mc35 35 call0) smT35 := ⟨⟨⟨⟨⟨⟨⟨⟨⟨⟨⟨trivial, ⟨⟨(smsB_ok s35_1024_ok), trivial⟩, trivial⟩⟩, trivial⟩, trivial⟩, trivial⟩, trivial⟩, trivial⟩, trivial⟩, trivial⟩, trivial⟩, trivial⟩, trivial⟩
def sm35 : List V → H → Fa → K → Nat := smHook mc35 (ssT smT35) 35 call0
def smT57 : Tr (List Sm) := (.node (.node (.node (.node .nil (.node (.node (.node (.node (.node (.node (.node (.node (.node (.leaf s57_8) .nil) .nil) .nil) .nil) .nil) .nil) .nil) .nil) .nil)) (.node (.node (.node (.node (.node (.node (.node (.node (.node (.node (.leaf s57_4) .nil) .nil) .nil) .nil) .nil) .nil) .nil) .nil) .nil) .nil)) (.node (.node .nil (.node (.node (.node (.node (.node .nil (.node (.node (.node (.node (.leaf s57_266) .nil) .nil) .nil) .nil)) .nil) .nil) .nil) .nil)) .nil)) (.node (.node (.node (.node (.node (.node (.node (.node (.node (.node (.node (.node (.leaf s57_1) .nil) .nil) .nil) .nil) .nil) .nil) .nil) .nil) .nil) .nil) .nil) (.node (.node .nil (.node (.node (.node (.node (.node .nil (.node (.node (.node (.node (.leaf s57_267) .nil) .nil) .nil) .nil)) .nil) .nil) .nil) .nil)) .nil)))
theorem smT57_ok : TrP (SmsOk mc57 57 call0) smT57 := ⟨⟨⟨⟨trivial, ⟨⟨⟨⟨⟨⟨⟨⟨⟨(smsB_ok s57_8_ok), trivial⟩, trivial⟩, trivial⟩, trivial⟩, trivial⟩, trivial⟩, trivial⟩, trivial⟩, trivial⟩⟩, ⟨⟨⟨⟨⟨⟨⟨⟨⟨⟨(smsB_ok s57_4_ok), trivial⟩, trivial⟩, trivial⟩, trivial⟩, trivial⟩, trivial⟩, trivial⟩, trivial⟩, trivial⟩, trivial⟩⟩, ⟨⟨trivial, ⟨⟨⟨⟨⟨trivial, ⟨⟨⟨⟨(smsB_ok s57_266_ok), trivial⟩, trivial⟩, trivial⟩, trivial⟩⟩, trivial⟩, trivial⟩, trivial⟩, trivial⟩⟩, trivial⟩⟩, ⟨⟨⟨⟨⟨⟨⟨⟨⟨⟨⟨⟨(smsB_ok s57_1_ok), trivial⟩, trivial⟩, trivial⟩, trivial⟩, trivial⟩, trivial⟩, trivial⟩, trivial⟩, trivial⟩, trivial⟩, trivial⟩, ⟨⟨trivial, ⟨⟨⟨⟨⟨trivial, ⟨⟨⟨⟨(smsB_ok s57_267_ok), trivial⟩, trivial⟩, trivial⟩, trivial⟩⟩, trivial⟩, trivial⟩, trivial⟩, trivial⟩⟩, trivial⟩⟩⟩
def sm57 : List V → H → Fa → K → Nat := smHook mc57 (ssT smT57) 57 call0
def smT64 : Tr (List Sm) := (.node (.node (.node (.node .nil (.node (.node (.node (.node (.node (.node (.node (.node (.node (.leaf s64_8) .nil) .nil) .nil) .nil) .nil) .nil) .nil) .nil) .nil)) (.node (.node (.node (.node (.node (.node (.node (.node (.node (.node (.leaf s64_4) .nil) .nil) .nil) .nil) .nil) .nil) .nil) .nil) .nil) .nil)) (.node (.node .nil (.node (.node (.node (.node (.node .nil (.node (.node (.node (.node (.leaf s64_266) .nil) .nil) .nil) .nil)) .nil) .nil) .nil) .nil)) .nil)) (.node (.node (.node (.node (.node (.node (.node (.node (.node (.node (.node (.node (.leaf s64_1) .nil) .nil) .nil) .nil) .nil) .nil) .nil) .nil) .nil) .nil) .nil) (.node (.node .nil (.node (.node (.node (.node (.node .nil (.node (.node (.node (.node (.leaf s64_267) .nil) .nil) .nil) .nil)) .nil) .nil) .nil) .nil)) .nil)))
theorem smT64_ok : TrP (SmsOk mc64 64 call0) smT64 := ⟨⟨⟨⟨trivial, ⟨⟨⟨⟨⟨⟨⟨⟨⟨(smsB_ok s64_8_ok), trivial⟩, trivial⟩, trivial⟩, trivial⟩, trivial⟩, trivial⟩, trivial⟩, trivial⟩, trivial⟩⟩, ⟨⟨⟨⟨⟨⟨⟨⟨⟨⟨(smsB_ok s64_4_ok), trivial⟩, trivial⟩, trivial⟩, trivial⟩, trivial⟩, trivial⟩, trivial⟩, trivial⟩, trivial⟩, trivial⟩⟩, ⟨⟨trivial, ⟨⟨⟨⟨⟨trivial, ⟨⟨⟨⟨(smsB_ok s64_266_ok), trivial⟩, trivial⟩, trivial⟩, trivial⟩⟩, trivial⟩, trivial⟩, trivial⟩, trivial⟩⟩, trivial⟩⟩, ⟨⟨⟨⟨⟨⟨⟨⟨⟨⟨⟨⟨(smsB_ok s64_1_ok), trivial⟩, trivial⟩, trivial⟩, trivial⟩, trivial⟩, trivial⟩, trivial⟩, trivial⟩, trivial⟩, trivial⟩, trivial⟩, ⟨⟨trivial, ⟨⟨⟨⟨⟨trivial, ⟨⟨⟨⟨(smsB_ok s64_267_ok), trivial⟩, trivial⟩, trivial⟩, trivial⟩⟩, trivial⟩, trivial⟩, trivial⟩, trivial⟩⟩, trivial⟩⟩⟩
def sm64 : List V → H → Fa → K → Nat := smHook mc64 (ssT smT64) 64 call0
def smT110 : Tr (List Sm) := (.node (.node (.node (.node (.node (.node (.node (.node (.node (.node (.node .nil (.node (.node (.leaf s110_1024) .nil) .nil)) .nil) .nil) (.node (.node (.node .nil (.node (.node (.leaf s110_1152) .nil) .nil)) .nil) .nil)) (.node (.node (.node (.node .nil (.node (.node (.leaf s110_1088) .nil) .nil)) .nil) .nil) (.node (.node (.node .nil (.node (.node (.leaf s110_1216) .nil) .nil)) .nil) .nil))) .nil) .nil) .nil) .nil) .nil) .nil)
theorem smT110_ok : TrP (SmsOk mc110 110 call0) smT110 := ⟨⟨⟨⟨⟨⟨⟨⟨⟨⟨⟨trivial, ⟨⟨(smsB_ok s110_1024_ok), trivial⟩, trivial⟩⟩, trivial⟩, trivial⟩, ⟨⟨⟨trivial, ⟨⟨(smsB_ok s110_1152_ok), trivial⟩, trivial⟩⟩, trivial⟩, trivial⟩⟩, ⟨⟨⟨⟨trivial, ⟨⟨(smsB_ok s110_1088_ok), trivial⟩, trivial⟩⟩, trivial⟩, trivial⟩, ⟨⟨⟨trivial, ⟨⟨(smsB_ok s110_1216_ok), trivial⟩, trivial⟩⟩, trivial⟩, trivial⟩⟩⟩, trivial⟩, trivial⟩, trivial⟩, trivial⟩, trivial⟩, trivial⟩
def sm110 : List V → H → Fa → K → Nat := smHook mc110 (ssT smT110) 110 call0
def smT114 : Tr (List Sm) := (.node (.node (.node (.node (.node (.node (.node .nil (.node (.node (.node (.node .nil (.node .nil (.node (.leaf s114_3136) .nil))) .nil) .nil) .nil)) .nil) .nil) .nil) .nil) .nil) .nil)
theorem smT114_ok : TrP (SmsOk mc114 114 call0) smT114 := ⟨⟨⟨⟨⟨⟨⟨trivial, ⟨⟨⟨⟨trivial, ⟨trivial, ⟨(smsB_ok s114_3136_ok), trivial⟩⟩⟩, trivial⟩, trivial⟩, trivial⟩⟩, trivial⟩, trivial⟩, trivial⟩, trivial⟩, trivial⟩, trivial⟩
def sm114 : List V → H → Fa → K → Nat := smHook mc114 (ssT smT114) 114 call0
def smX (F : Nat) : Option (List V → H → Fa → K → Nat) := (bc (Nat.beq F 16) (some sm16) (bc (Nat.beq F 17) (some sm17) (bc (Nat.beq F 35) (some sm35) (bc (Nat.beq F 57) (some sm57) (bc (Nat.beq F 64) (some sm64) (bc (Nat.beq F 110) (some sm110) (bc (Nat.beq F 114) (some sm114) none)))))))
def cxS : Cx := ⟨fnX, fun F => bc (Nat.beq F 195) (some lenX) (smX F), 20000⟩
def callS1 : CallT := callT cxS 100
def itrX (F : Nat) : Option ItrT := none
def cx1 : Cx := ⟨fnX, fun F => bc (Nat.beq F 195) (some lenX) (smX F), 20000⟩
def call1 : CallT := callT cx1 100
variable {E : Env}
def LenOk (E : Env) : Prop := CallOk E Tryz.prog (fun G l h fa k => bc (Nat.beq G 195) (lenX l h fa k) 1)
def LenA (E : Env) : Prop := ∀ E' : Env, (∀ q, q ≠ 7 → E'.s q = E.s q) → LenOk E'
theorem LenA.one (h : LenA E) : LenOk E := h E (fun _ _ => rfl)
theorem hookOne {C : Nat → Option (List V → H → Fa → K → Nat)} {a : Nat} {s : List V → H → Fa → K → Nat} (hs : CallOk E Tryz.prog (fun G l h fa k => bc (Nat.beq G a) (s l h fa k) 1))
    (hC : ∀ F t, C F = some t → CallOk E Tryz.prog (fun G l h fa k => bc (Nat.beq G F) (t l h fa k) 1)) : ∀ F t, bc (Nat.beq F a) (some s) (C F) = some t → CallOk E Tryz.prog (fun G l h fa k => bc (Nat.beq G F) (t l h fa k) 1) := by
  intro F t h
  cases e : Nat.beq F a with
  | true =>
    rw [e] at h
    have h : some s = some t := h
    cases h
    have e : F = a := by simpa using e
    subst e
    exact hs
  | false => rw [e] at h; exact hC F t h
theorem hookNone : ∀ F t, (none : Option (List V → H → Fa → K → Nat)) = some t → CallOk E Tryz.prog (fun G l h fa k => bc (Nat.beq G F) (t l h fa k) 1) := fun F t h => by cases h
theorem cx0_ok (hlen : LenOk E) : CxOk E Tryz.prog (tyOf Tryz.prog) cx0 := ⟨tyOk_tyOf, mixedX, fun F i h => fnX_ok h, hookOne (C := fun _ => none) hlen hookNone⟩
theorem call0_ok (hlen : LenOk E) : CallOk E Tryz.prog call0 := callT_run (cx0_ok hlen) 100
theorem smX_ok (hlen : LenA E) : ∀ F t, smX F = some t → CallOk E Tryz.prog (fun G l h fa k => bc (Nat.beq G F) (t l h fa k) 1) := hookOne (C := fun F => (bc (Nat.beq F 17) (some sm17) (bc (Nat.beq F 35) (some sm35) (bc (Nat.beq F 57) (some sm57) (bc (Nat.beq F 64) (some sm64) (bc (Nat.beq F 110) (some sm110) (bc (Nat.beq F 114) (some sm114) none))))))) (ss_ok (fun E' h => call0_ok (hlen E' h)) smT16_ok) (hookOne (C := fun F => (bc (Nat.beq F 35) (some sm35) (bc (Nat.beq F 57) (some sm57) (bc (Nat.beq F 64) (some sm64) (bc (Nat.beq F 110) (some sm110) (bc (Nat.beq F 114) (some sm114) none)))))) (ss_ok (fun E' h => call0_ok (hlen E' h)) smT17_ok) (hookOne (C := fun F => (bc (Nat.beq F 57) (some sm57) (bc (Nat.beq F 64) (some sm64) (bc (Nat.beq F 110) (some sm110) (bc (Nat.beq F 114) (some sm114) none))))) (ss_ok (fun E' h => call0_ok (hlen E' h)) smT35_ok) (hookOne (C := fun F => (bc (Nat.beq F 64) (some sm64) (bc (Nat.beq F 110) (some sm110) (bc (Nat.beq F 114) (some sm114) none)))) (ss_ok (fun E' h => call0_ok (hlen E' h)) smT57_ok) (hookOne (C := fun F => (bc (Nat.beq F 110) (some sm110) (bc (Nat.beq F 114) (some sm114) none))) (ss_ok (fun E' h => call0_ok (hlen E' h)) smT64_ok) (hookOne (C := fun F => (bc (Nat.beq F 114) (some sm114) none)) (ss_ok (fun E' h => call0_ok (hlen E' h)) smT110_ok) (hookOne (C := fun F => none) (ss_ok (fun E' h => call0_ok (hlen E' h)) smT114_ok) (hookNone)))))))
theorem cxS_ok (hlen : LenA E) : CxOk E Tryz.prog (tyOf Tryz.prog) cxS := ⟨tyOk_tyOf, mixedX, fun F i h => fnX_ok h, hookOne (C := smX) hlen.one (smX_ok hlen)⟩
theorem callS1_ok (hlen : LenA E) : CallOk E Tryz.prog callS1 := callT_run (cxS_ok hlen) 100
theorem itrX_ok (hlen : LenA E) : ItrOk E Tryz.prog itrX := by
  intro G it h
  unfold itrX at h
  cases h
theorem cx1_ok (hlen : LenA E) : CxOk E Tryz.prog (tyOf Tryz.prog) cx1 := ⟨tyOk_tyOf, mixedX, fun F i h => fnX_ok h, hookOne (C := smX) hlen.one (smX_ok hlen)⟩
theorem call1_ok (hlen : LenA E) : CallOk E Tryz.prog call1 := callT_run (cx1_ok hlen) 100
end Go.Ev.X
end
