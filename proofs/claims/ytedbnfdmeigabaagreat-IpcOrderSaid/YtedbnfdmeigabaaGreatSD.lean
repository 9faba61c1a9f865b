/-
  Summaries as hooks; functions that range.
-/
import Derived.Test.YtedbnfdmeigabaaGreatSC
import Derived.Test.YtedbnfdmeigabaaGreatSS0
import Derived.Test.YtedbnfdmeigabaaGreatSS1
set_option linter.unusedSimpArgs false
set_option linter.unusedVariables false
set_option maxRecDepth 100000
noncomputable section
namespace Go.Ev.X
open Go Go.Ev Go.Proofs
def smT16 : Tr (List Sm) := (.node (.node (.node (.node (.node (.node (.node (.node (.node (.node (.node .nil (.node (.node (.leaf s16_1024) .nil) .nil)) .nil) .nil) (.node (.node (.node .nil (.node (.node (.leaf s16_1152) .nil) .nil)) .nil) .nil)) (.node (.node (.node (.node .nil (.node (.node (.leaf s16_1088) .nil) .nil)) .nil) .nil) (.node (.node (.node .nil (.node (.node (.leaf s16_1216) .nil) .nil)) .nil) .nil))) .nil) .nil) .nil) .nil) .nil) .nil)
theorem smT16_ok : TrP (SmsOk mc16 16 call0) smT16 := ⟨⟨⟨⟨⟨⟨⟨⟨⟨⟨⟨trivial, ⟨⟨(smsB_ok s16_1024_ok), trivial⟩, trivial⟩⟩, trivial⟩, trivial⟩, ⟨⟨⟨trivial, ⟨⟨(smsB_ok s16_1152_ok), trivial⟩, trivial⟩⟩, trivial⟩, trivial⟩⟩, ⟨⟨⟨⟨trivial, ⟨⟨(smsB_ok s16_1088_ok), trivial⟩, trivial⟩⟩, trivial⟩, trivial⟩, ⟨⟨⟨trivial, ⟨⟨(smsB_ok s16_1216_ok), trivial⟩, trivial⟩⟩, trivial⟩, trivial⟩⟩⟩, trivial⟩, trivial⟩, trivial⟩, trivial⟩, trivial⟩, trivial⟩
def sm16 : List V → H → Fa → K → Nat := smHook mc16 (ssT smT16) 16 call0
def smT20 : Tr (List Sm) := (.node (.node (.node (.node (.node (.node (.node (.node (.node (.node (.node .nil (.node (.node (.leaf s20_1024) .nil) .nil)) .nil) .nil) (.node (.node (.node .nil (.node (.node (.leaf s20_1152) .nil) .nil)) .nil) .nil)) (.node (.node (.node (.node .nil (.node (.node (.leaf s20_1088) .nil) .nil)) .nil) .nil) (.node (.node (.node .nil (.node (.node (.leaf s20_1216) .nil) .nil)) .nil) .nil))) .nil) .nil) .nil) .nil) .nil) .nil)
theorem smT20_ok : TrP (SmsOk mc20 20 call0) smT20 := ⟨⟨⟨⟨⟨⟨⟨⟨⟨⟨⟨trivial, ⟨⟨(smsB_ok s20_1024_ok), trivial⟩, trivial⟩⟩, trivial⟩, trivial⟩, ⟨⟨⟨trivial, ⟨⟨(smsB_ok s20_1152_ok), trivial⟩, trivial⟩⟩, trivial⟩, trivial⟩⟩, ⟨⟨⟨⟨trivial, ⟨⟨(smsB_ok s20_1088_ok), trivial⟩, trivial⟩⟩, trivial⟩, trivial⟩, ⟨⟨⟨trivial, ⟨⟨(smsB_ok s20_1216_ok), trivial⟩, trivial⟩⟩, trivial⟩, trivial⟩⟩⟩, trivial⟩, trivial⟩, trivial⟩, trivial⟩, trivial⟩, trivial⟩
def sm20 : List V → H → Fa → K → Nat := smHook mc20 (ssT smT20) 20 call0
def smT32 : Tr (List Sm) := (.node (.node (.node (.node .nil (.node (.node (.node .nil (.node (.node (.node (.node (.node .nil (.node (.leaf s32_2120) .nil)) (.node (.node (.leaf s32_1096) .nil) .nil)) .nil) .nil) .nil)) .nil) .nil)) .nil) .nil) .nil)
theorem smT32_ok : TrP (SmsOk mc32 32 call0) smT32 := ⟨⟨⟨⟨trivial, ⟨⟨⟨trivial, ⟨⟨⟨⟨⟨trivial, ⟨(smsB_ok s32_2120_ok), trivial⟩⟩, ⟨⟨(smsB_ok s32_1096_ok), trivial⟩, trivial⟩⟩, trivial⟩, trivial⟩, trivial⟩⟩, trivial⟩, trivial⟩⟩, trivial⟩, trivial⟩, trivial⟩
def sm32 : List V → H → Fa → K → Nat := smHook mc32 (ssT smT32) 32 call0
def smT57 : Tr (List Sm) := (.node (.node (.node (.node .nil (.node (.node (.node (.node (.node (.node (.node (.node (.node (.leaf s57_8) .nil) .nil) .nil) .nil) .nil) .nil) .nil) .nil) .nil)) (.node (.node (.node (.node (.node (.node (.node (.node (.node (.node (.leaf s57_4) .nil) .nil) .nil) .nil) .nil) .nil) .nil) .nil) .nil) .nil)) (.node (.node (.node (.node (.node (.node (.node (.node (.node (.node (.node (.leaf s57_2) .nil) .nil) .nil) .nil) .nil) .nil) .nil) .nil) .nil) (.node (.node (.node (.node (.node .nil (.node (.node (.node (.node (.leaf s57_266) .nil) .nil) .nil) .nil)) .nil) .nil) .nil) (.node .nil (.node .nil (.node .nil (.node .nil (.node (.node (.node (.node (.leaf s57_506) .nil) .nil) .nil) .nil))))))) .nil)) (.node (.node (.node (.node (.node (.node (.node (.node (.node (.node (.node (.node (.leaf s57_1) .nil) .nil) .nil) .nil) .nil) .nil) .nil) .nil) .nil) .nil) .nil) (.node (.node .nil (.node (.node (.node (.node (.node (.node (.node (.node (.node (.leaf s57_11) .nil) .nil) .nil) .nil) (.node (.node (.node (.node (.leaf s57_267) .nil) .nil) .nil) .nil)) .nil) .nil) .nil) .nil)) .nil)))
theorem smT57_ok : TrP (SmsOk mc57 57 call0) smT57 := ⟨⟨⟨⟨trivial, ⟨⟨⟨⟨⟨⟨⟨⟨⟨(smsB_ok s57_8_ok), trivial⟩, trivial⟩, trivial⟩, trivial⟩, trivial⟩, trivial⟩, trivial⟩, trivial⟩, trivial⟩⟩, ⟨⟨⟨⟨⟨⟨⟨⟨⟨⟨(smsB_ok s57_4_ok), trivial⟩, trivial⟩, trivial⟩, trivial⟩, trivial⟩, trivial⟩, trivial⟩, trivial⟩, trivial⟩, trivial⟩⟩, ⟨⟨⟨⟨⟨⟨⟨⟨⟨⟨⟨(smsB_ok s57_2_ok), trivial⟩, trivial⟩, trivial⟩, trivial⟩, trivial⟩, trivial⟩, trivial⟩, trivial⟩, trivial⟩, ⟨⟨⟨⟨⟨trivial, ⟨⟨⟨⟨(smsB_ok s57_266_ok), trivial⟩, trivial⟩, trivial⟩, trivial⟩⟩, trivial⟩, trivial⟩, trivial⟩, ⟨trivial, ⟨trivial, ⟨trivial, ⟨trivial, ⟨⟨⟨⟨(smsB_ok s57_506_ok), trivial⟩, trivial⟩, trivial⟩, trivial⟩⟩⟩⟩⟩⟩⟩, trivial⟩⟩, ⟨⟨⟨⟨⟨⟨⟨⟨⟨⟨⟨⟨(smsB_ok s57_1_ok), trivial⟩, trivial⟩, trivial⟩, trivial⟩, trivial⟩, trivial⟩, trivial⟩, trivial⟩, trivial⟩, trivial⟩, trivial⟩, ⟨⟨trivial, ⟨⟨⟨⟨⟨⟨⟨⟨⟨(smsB_ok s57_11_ok), trivial⟩, trivial⟩, trivial⟩, trivial⟩, ⟨⟨⟨⟨(smsB_ok s57_267_ok), trivial⟩, trivial⟩, trivial⟩, trivial⟩⟩, trivial⟩, trivial⟩, trivial⟩, trivial⟩⟩, trivial⟩⟩⟩
def sm57 : List V → H → Fa → K → Nat := smHook mc57 (ssT smT57) 57 call0
def smT61 : Tr (List Sm) := (.node (.node (.node (.node .nil (.node (.node (.node (.node (.node (.node (.node .nil (.node (.node (.leaf s61_1032) .nil) .nil)) .nil) .nil) .nil) (.node (.node (.node (.node (.node .nil (.node (.leaf s61_2120) .nil)) (.node (.node (.leaf s61_1096) .nil) .nil)) .nil) .nil) .nil)) .nil) .nil)) .nil) .nil) .nil)
theorem smT61_ok : TrP (SmsOk mc61 61 call0) smT61 := ⟨⟨⟨⟨trivial, ⟨⟨⟨⟨⟨⟨⟨trivial, ⟨⟨(smsB_ok s61_1032_ok), trivial⟩, trivial⟩⟩, trivial⟩, trivial⟩, trivial⟩, ⟨⟨⟨⟨⟨trivial, ⟨(smsB_ok s61_2120_ok), trivial⟩⟩, ⟨⟨(smsB_ok s61_1096_ok), trivial⟩, trivial⟩⟩, trivial⟩, trivial⟩, trivial⟩⟩, trivial⟩, trivial⟩⟩, trivial⟩, trivial⟩, trivial⟩
def sm61 : List V → H → Fa → K → Nat := smHook mc61 (ssT smT61) 61 call0
def smT64 : Tr (List Sm) := (.node (.node (.node (.node .nil (.node (.node (.node (.node (.node (.node (.node (.node (.node (.leaf s64_8) .nil) .nil) .nil) .nil) .nil) .nil) .nil) .nil) .nil)) (.node (.node (.node (.node (.node (.node (.node (.node (.node (.node (.leaf s64_4) .nil) .nil) .nil) .nil) .nil) .nil) .nil) .nil) .nil) .nil)) (.node (.node (.node (.node (.node (.node (.node (.node (.node (.node (.node (.leaf s64_2) .nil) .nil) .nil) .nil) .nil) .nil) .nil) .nil) .nil) (.node (.node (.node (.node (.node .nil (.node (.node (.node (.node (.leaf s64_266) .nil) .nil) .nil) .nil)) .nil) .nil) .nil) (.node .nil (.node .nil (.node .nil (.node .nil (.node (.node (.node (.node (.leaf s64_506) .nil) .nil) .nil) .nil))))))) .nil)) (.node (.node (.node (.node (.node (.node (.node (.node (.node (.node (.node (.node (.leaf s64_1) .nil) .nil) .nil) .nil) .nil) .nil) .nil) .nil) .nil) .nil) .nil) (.node (.node .nil (.node (.node (.node (.node (.node (.node (.node (.node (.node (.leaf s64_11) .nil) .nil) .nil) .nil) (.node (.node (.node (.node (.leaf s64_267) .nil) .nil) .nil) .nil)) .nil) .nil) .nil) .nil)) .nil)))
theorem smT64_ok : TrP (SmsOk mc64 64 call0) smT64 := ⟨⟨⟨⟨trivial, ⟨⟨⟨⟨⟨⟨⟨⟨⟨(smsB_ok s64_8_ok), trivial⟩, trivial⟩, trivial⟩, trivial⟩, trivial⟩, trivial⟩, trivial⟩, trivial⟩, trivial⟩⟩, ⟨⟨⟨⟨⟨⟨⟨⟨⟨⟨(smsB_ok s64_4_ok), trivial⟩, trivial⟩, trivial⟩, trivial⟩, trivial⟩, trivial⟩, trivial⟩, trivial⟩, trivial⟩, trivial⟩⟩, ⟨⟨⟨⟨⟨⟨⟨⟨⟨⟨⟨(smsB_ok s64_2_ok), trivial⟩, trivial⟩, trivial⟩, trivial⟩, trivial⟩, trivial⟩, trivial⟩, trivial⟩, trivial⟩, ⟨⟨⟨⟨⟨trivial, ⟨⟨⟨⟨(smsB_ok s64_266_ok), trivial⟩, trivial⟩, trivial⟩, trivial⟩⟩, trivial⟩, trivial⟩, trivial⟩, ⟨trivial, ⟨trivial, ⟨trivial, ⟨trivial, ⟨⟨⟨⟨(smsB_ok s64_506_ok), trivial⟩, trivial⟩, trivial⟩, trivial⟩⟩⟩⟩⟩⟩⟩, trivial⟩⟩, ⟨⟨⟨⟨⟨⟨⟨⟨⟨⟨⟨⟨(smsB_ok s64_1_ok), trivial⟩, trivial⟩, trivial⟩, trivial⟩, trivial⟩, trivial⟩, trivial⟩, trivial⟩, trivial⟩, trivial⟩, trivial⟩, ⟨⟨trivial, ⟨⟨⟨⟨⟨⟨⟨⟨⟨(smsB_ok s64_11_ok), trivial⟩, trivial⟩, trivial⟩, trivial⟩, ⟨⟨⟨⟨(smsB_ok s64_267_ok), trivial⟩, trivial⟩, trivial⟩, trivial⟩⟩, trivial⟩, trivial⟩, trivial⟩, trivial⟩⟩, trivial⟩⟩⟩
def sm64 : List V → H → Fa → K → Nat := smHook mc64 (ssT smT64) 64 call0
def smT110 : Tr (List Sm) := (.node (.node (.node (.node (.node (.node (.node (.node (.node (.node (.node .nil (.node (.node (.leaf s110_1024) .nil) .nil)) .nil) .nil) (.node (.node (.node .nil (.node (.node (.leaf s110_1152) .nil) .nil)) .nil) .nil)) (.node (.node (.node (.node .nil (.node (.node (.leaf s110_1088) .nil) .nil)) .nil) .nil) (.node (.node (.node .nil (.node (.node (.leaf s110_1216) .nil) .nil)) .nil) .nil))) .nil) .nil) .nil) .nil) .nil) .nil)
theorem smT110_ok : TrP (SmsOk mc110 110 call0) smT110 := ⟨⟨⟨⟨⟨⟨⟨⟨⟨⟨⟨trivial, ⟨⟨(smsB_ok s110_1024_ok), trivial⟩, trivial⟩⟩, trivial⟩, trivial⟩, ⟨⟨⟨trivial, ⟨⟨(smsB_ok s110_1152_ok), trivial⟩, trivial⟩⟩, trivial⟩, trivial⟩⟩, ⟨⟨⟨⟨trivial, ⟨⟨(smsB_ok s110_1088_ok), trivial⟩, trivial⟩⟩, trivial⟩, trivial⟩, ⟨⟨⟨trivial, ⟨⟨(smsB_ok s110_1216_ok), trivial⟩, trivial⟩⟩, trivial⟩, trivial⟩⟩⟩, trivial⟩, trivial⟩, trivial⟩, trivial⟩, trivial⟩, trivial⟩
def sm110 : List V → H → Fa → K → Nat := smHook mc110 (ssT smT110) 110 call0
def smT126 : Tr (List Sm) := (.node (.node (.node (.node (.node .nil (.node .nil (.node (.node (.node (.node (.node .nil (.node .nil (.node (.leaf s126_3120) .nil))) .nil) .nil) .nil) .nil))) .nil) (.node (.node .nil (.node .nil (.node (.node (.node (.node (.node .nil (.node .nil (.node (.leaf s126_3124) .nil))) .nil) .nil) .nil) .nil))) .nil)) .nil) .nil)
theorem smT126_ok : TrP (SmsOk mc126 126 call0) smT126 := ⟨⟨⟨⟨⟨trivial, ⟨trivial, ⟨⟨⟨⟨⟨trivial, ⟨trivial, ⟨(smsB_ok s126_3120_ok), trivial⟩⟩⟩, trivial⟩, trivial⟩, trivial⟩, trivial⟩⟩⟩, trivial⟩, ⟨⟨trivial, ⟨trivial, ⟨⟨⟨⟨⟨trivial, ⟨trivial, ⟨(smsB_ok s126_3124_ok), trivial⟩⟩⟩, trivial⟩, trivial⟩, trivial⟩, trivial⟩⟩⟩, trivial⟩⟩, trivial⟩, trivial⟩
def sm126 : List V → H → Fa → K → Nat := smHook mc126 (ssT smT126) 126 call0
def smT201 : Tr (List Sm) := (.node (.node (.node (.node (.node .nil (.node .nil (.node (.node (.node (.node (.node .nil (.node .nil (.node (.leaf s201_3120) .nil))) .nil) .nil) .nil) .nil))) .nil) (.node (.node .nil (.node .nil (.node (.node (.node (.node (.node .nil (.node .nil (.node (.leaf s201_3124) .nil))) .nil) .nil) .nil) .nil))) .nil)) .nil) .nil)
theorem smT201_ok : TrP (SmsOk mc201 201 call0) smT201 := ⟨⟨⟨⟨⟨trivial, ⟨trivial, ⟨⟨⟨⟨⟨trivial, ⟨trivial, ⟨(smsB_ok s201_3120_ok), trivial⟩⟩⟩, trivial⟩, trivial⟩, trivial⟩, trivial⟩⟩⟩, trivial⟩, ⟨⟨trivial, ⟨trivial, ⟨⟨⟨⟨⟨trivial, ⟨trivial, ⟨(smsB_ok s201_3124_ok), trivial⟩⟩⟩, trivial⟩, trivial⟩, trivial⟩, trivial⟩⟩⟩, trivial⟩⟩, trivial⟩, trivial⟩
def sm201 : List V → H → Fa → K → Nat := smHook mc201 (ssT smT201) 201 call0
def smX (F : Nat) : Option (List V → H → Fa → K → Nat) := (bc (Nat.beq F 16) (some sm16) (bc (Nat.beq F 20) (some sm20) (bc (Nat.beq F 32) (some sm32) (bc (Nat.beq F 57) (some sm57) (bc (Nat.beq F 61) (some sm61) (bc (Nat.beq F 64) (some sm64) (bc (Nat.beq F 110) (some sm110) (bc (Nat.beq F 126) (some sm126) (bc (Nat.beq F 201) (some sm201) none)))))))))
def cxS : Cx := ⟨fnX, fun F => bc (Nat.beq F 195) (some lenX) (smX F), 20000⟩
def callS1 : CallT := callT cxS 100
def it293 : ItrT := itrT yc293 callS1 293 20000
def itrX (F : Nat) : Option ItrT := (bc (Nat.beq F 293) (some it293) none)
def rf183 : List V → H → Fa → K → Nat := rfnT yc183 rs183 callS1 183 20000 itrX
def cx1 : Cx := ⟨fnX, fun F => bc (Nat.beq F 195) (some lenX) (bc (Nat.beq F 183) (some rf183) (smX F)), 20000⟩
def call1 : CallT := callT cx1 100
theorem y293 : (match Tryz.f293.body with | some c => cCodeY (tyOf Tryz.prog) Tryz.f293.ntmps c true | none => .bad) = yc293 := by kernel_rfl
theorem y183 : (match Tryz.f183.body with | some c => cCodeY (tyOf Tryz.prog) Tryz.f183.ntmps c true | none => .bad) = yc183 := by kernel_rfl
theorem e293 : Tryz.f293.results.toList = [] := by kernel_rfl
theorem e183 : cRes (tyOf Tryz.prog) Tryz.f183.results.toList = some rs183 := by kernel_rfl
variable {E : Env}
def LenOk (E : Env) : Prop := CallOk E Tryz.prog (fun G l h fa k => bc (Nat.beq G 195) (lenX l h fa k) 1)
def LenA (E : Env) : Prop := ∀ E' : Env, (∀ q, q ≠ 7 → E'.s q = E.s q) → LenOk E'
theorem LenA.one (h : LenA E) : LenOk E := h E (fun _ _ => rfl)
theorem hookOne {C : Nat → Option (List V → H → Fa → K → Nat)} {a : Nat} {s : List V → H → Fa → K → Nat} (hs : CallOk E Tryz.prog (fun G l h fa k => bc (Nat.beq G a) (s l h fa k) 1))
    (hC : ∀ F t, C F = some t → CallOk E Tryz.prog (fun G l h fa k => bc (Nat.beq G F) (t l h fa k) 1)) : ∀ F t, bc (Nat.beq F a) (some s) (C F) = some t → CallOk E Tryz.prog (fun G l h fa k => bc (Nat.beq G F) (t l h fa k) 1) := by
  intro F t h
  cases e : Nat.beq F a with
  | true =>
    rw [e] at h
    have h : some s = some t := h
    cases h
    have e : F = a := by simpa using e
    subst e
    exact hs
  | false => rw [e] at h; exact hC F t h
theorem hookNone : ∀ F t, (none : Option (List V → H → Fa → K → Nat)) = some t → CallOk E Tryz.prog (fun G l h fa k => bc (Nat.beq G F) (t l h fa k) 1) := fun F t h => by cases h
theorem cx0_ok (hlen : LenOk E) : CxOk E Tryz.prog (tyOf Tryz.prog) cx0 := ⟨tyOk_tyOf, mixedX, fun F i h => fnX_ok h, hookOne (C := fun _ => none) hlen hookNone⟩
theorem call0_ok (hlen : LenOk E) : CallOk E Tryz.prog call0 := callT_run (cx0_ok hlen) 100
theorem smX_ok (hlen : LenA E) : ∀ F t, smX F = some t → CallOk E Tryz.prog (fun G l h fa k => bc (Nat.beq G F) (t l h fa k) 1) := hookOne (C := fun F => (bc (Nat.beq F 20) (some sm20) (bc (Nat.beq F 32) (some sm32) (bc (Nat.beq F 57) (some sm57) (bc (Nat.beq F 61) (some sm61) (bc (Nat.beq F 64) (some sm64) (bc (Nat.beq F 110) (some sm110) (bc (Nat.beq F 126) (some sm126) (bc (Nat.beq F 201) (some sm201) none))))))))) (ss_ok (fun E' h => call0_ok (hlen E' h)) smT16_ok) (hookOne (C := fun F => (bc (Nat.beq F 32) (some sm32) (bc (Nat.beq F 57) (some sm57) (bc (Nat.beq F 61) (some sm61) (bc (Nat.beq F 64) (some sm64) (bc (Nat.beq F 110) (some sm110) (bc (Nat.beq F 126) (some sm126) (bc (Nat.beq F 201) (some sm201) none)))))))) (ss_ok (fun E' h => call0_ok (hlen E' h)) smT20_ok) (hookOne (C := fun F => (bc (Nat.beq F 57) (some sm57) (bc (Nat.beq F 61) (some sm61) (bc (Nat.beq F 64) (some sm64) (bc (Nat.beq F 110) (some sm110) (bc (Nat.beq F 126) (some sm126) (bc (Nat.beq F 201) (some sm201) none))))))) (ss_ok (fun E' h => call0_ok (hlen E' h)) smT32_ok) (hookOne (C := fun F => (bc (Nat.beq F 61) (some sm61) (bc (Nat.beq F 64) (some sm64) (bc (Nat.beq F 110) (some sm110) (bc (Nat.beq F 126) (some sm126) (bc (Nat.beq F 201) (some sm201) none)))))) (ss_ok (fun E' h => call0_ok (hlen E' h)) smT57_ok) (hookOne (C := fun F => (bc (Nat.beq F 64) (some sm64) (bc (Nat.beq F 110) (some sm110) (bc (Nat.beq F 126) (some sm126) (bc (Nat.beq F 201) (some sm201) none))))) (ss_ok (fun E' h => call0_ok (hlen E' h)) smT61_ok) (hookOne (C := fun F => (bc (Nat.beq F 110) (some sm110) (bc (Nat.beq F 126) (some sm126) (bc (Nat.beq F 201) (some sm201) none)))) (ss_ok (fun E' h => call0_ok (hlen E' h)) smT64_ok) (hookOne (C := fun F => (bc (Nat.beq F 126) (some sm126) (bc (Nat.beq F 201) (some sm201) none))) (ss_ok (fun E' h => call0_ok (hlen E' h)) smT110_ok) (hookOne (C := fun F => (bc (Nat.beq F 201) (some sm201) none)) (ss_ok (fun E' h => call0_ok (hlen E' h)) smT126_ok) (hookOne (C := fun F => none) (ss_ok (fun E' h => call0_ok (hlen E' h)) smT201_ok) (hookNone)))))))))
theorem cxS_ok (hlen : LenA E) : CxOk E Tryz.prog (tyOf Tryz.prog) cxS := ⟨tyOk_tyOf, mixedX, fun F i h => fnX_ok h, hookOne (C := smX) hlen.one (smX_ok hlen)⟩
theorem callS1_ok (hlen : LenA E) : CallOk E Tryz.prog callS1 := callT_run (cxS_ok hlen) 100
theorem itrX_ok (hlen : LenA E) : ItrOk E Tryz.prog itrX := by
  intro G it h
  unfold itrX at h
  cases e293' : Nat.beq G 293 with
  | true =>
    rw [e293'] at h
    have h : some it293 = some it := h
    cases h
    have e : G = 293 := by simpa using e293'
    subst e
    refine ⟨Tryz.call293, fun s hand l h fa k hh hk hfa => ?_⟩
    have hy := y293
    split at hy
    · rename_i c hc
      unfold it293 at hk
      rw [← hy] at hk
      exact itr_ok tyOk_tyOf (callS1_ok hlen) Tryz.func293 hc e293 s hand l h fa k hh hk hfa
    · rename_i hc
      exact absurd hc (by have : Tryz.f293.body.isSome = true := by kernel_rfl
                          intro hn; rw [hn] at this; cases this)
  | false =>
  rw [e293'] at h
  cases h
theorem rf183_ok (hlen : LenA E) : CallOk E Tryz.prog (fun G l h fa k => bc (Nat.beq G 183) (rf183 l h fa k) 1) := by
  have hy := y183
  split at hy
  · rename_i c hc
    unfold rf183
    rw [← hy]
    exact rfn_ok tyOk_tyOf (callS1_ok hlen) (itrX_ok hlen) Tryz.func183 Tryz.call183 hc e183
  · rename_i hc
    exact absurd hc (by have : Tryz.f183.body.isSome = true := by kernel_rfl
                        intro hn; rw [hn] at this; cases this)
theorem cx1_ok (hlen : LenA E) : CxOk E Tryz.prog (tyOf Tryz.prog) cx1 := ⟨tyOk_tyOf, mixedX, fun F i h => fnX_ok h, hookOne (C := fun F => bc (Nat.beq F 183) (some rf183) ((smX) F)) hlen.one (hookOne (C := smX) (rf183_ok hlen) (smX_ok hlen))⟩
theorem call1_ok (hlen : LenA E) : CallOk E Tryz.prog call1 := callT_run (cx1_ok hlen) 100
end Go.Ev.X
end
