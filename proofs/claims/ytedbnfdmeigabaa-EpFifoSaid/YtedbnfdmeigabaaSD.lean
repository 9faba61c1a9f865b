/-
  Summaries as hooks; functions that range.
-/
import Derived.Test.YtedbnfdmeigabaaSC
import Derived.Test.YtedbnfdmeigabaaSS0
set_option linter.unusedSimpArgs false
set_option linter.unusedVariables false
set_option maxRecDepth 100000
noncomputable section
namespace Go.Ev.X
open Go Go.Ev Go.Proofs
def smT15 : Tr (List Sm) := (.node (.node (.node (.node (.node .nil (.node .nil (.node (.node (.node (.node (.node .nil (.node .nil (.node (.leaf s15_3120) .nil))) .nil) .nil) .nil) .nil))) .nil) (.node (.node .nil (.node .nil (.node (.node (.node (.node (.node .nil (.node .nil (.node (.leaf s15_3124) .nil))) .nil) .nil) .nil) .nil))) .nil)) .nil) .nil)
theorem smT15_ok : TrP (SmsOk mc15 15 call0) smT15 := ⟨⟨⟨⟨⟨trivial, ⟨trivial, ⟨⟨⟨⟨⟨trivial, ⟨trivial, ⟨(smsB_ok s15_3120_ok), trivial⟩⟩⟩, trivial⟩, trivial⟩, trivial⟩, trivial⟩⟩⟩, trivial⟩, ⟨⟨trivial, ⟨trivial, ⟨⟨⟨⟨⟨trivial, ⟨trivial, ⟨(smsB_ok s15_3124_ok), trivial⟩⟩⟩, trivial⟩, trivial⟩, trivial⟩, trivial⟩⟩⟩, trivial⟩⟩, trivial⟩, trivial⟩
def sm15 : List V → H → Fa → K → Nat := smHook mc15 (ssT smT15) 15 call0
def smT16 : Tr (List Sm) := (.node (.node (.node (.node (.node (.node (.node (.node (.node (.node (.node .nil (.node (.node (.leaf s16_1024) .nil) .nil)) .nil) .nil) (.node (.node (.node .nil (.node (.node (.leaf s16_1152) .nil) .nil)) .nil) .nil)) (.node (.node (.node (.node .nil (.node (.node (.leaf s16_1088) .nil) .nil)) .nil) .nil) (.node (.node (.node .nil (.node (.node (.leaf s16_1216) .nil) .nil)) .nil) .nil))) .nil) .nil) .nil) .nil) .nil) .nil)
theorem smT16_ok : TrP (SmsOk mc16 16 call0) smT16 := ⟨⟨⟨⟨⟨⟨⟨⟨⟨⟨⟨trivial, ⟨⟨(smsB_ok s16_1024_ok), trivial⟩, trivial⟩⟩, trivial⟩, trivial⟩, ⟨⟨⟨trivial, ⟨⟨(smsB_ok s16_1152_ok), trivial⟩, trivial⟩⟩, trivial⟩, trivial⟩⟩, ⟨⟨⟨⟨trivial, ⟨⟨(smsB_ok s16_1088_ok), trivial⟩, trivial⟩⟩, trivial⟩, trivial⟩, ⟨⟨⟨trivial, ⟨⟨(smsB_ok s16_1216_ok), trivial⟩, trivial⟩⟩, trivial⟩, trivial⟩⟩⟩, trivial⟩, trivial⟩, trivial⟩, trivial⟩, trivial⟩, trivial⟩
def sm16 : List V → H → Fa → K → Nat := smHook mc16 (ssT smT16) 16 call0
def smT28 : Tr (List Sm) := (.node (.node (.node (.node .nil (.node (.node (.node (.node (.node (.node (.node (.node (.node (.leaf s28_8) .nil) .nil) .nil) .nil) .nil) .nil) .nil) .nil) .nil)) (.node (.node (.node (.node (.node (.node (.node (.node (.node (.node (.leaf s28_4) .nil) .nil) .nil) .nil) .nil) .nil) .nil) .nil) .nil) .nil)) (.node (.node .nil (.node (.node (.node (.node (.node .nil (.node (.node (.node (.node (.leaf s28_266) .nil) .nil) .nil) .nil)) .nil) .nil) .nil) .nil)) .nil)) (.node (.node (.node (.node (.node (.node (.node (.node (.node (.node (.node (.node (.leaf s28_1) .nil) .nil) .nil) .nil) .nil) .nil) .nil) .nil) .nil) .nil) .nil) .nil))
theorem smT28_ok : TrP (SmsOk mc28 28 call0) smT28 := ⟨⟨⟨⟨trivial, ⟨⟨⟨⟨⟨⟨⟨⟨⟨(smsB_ok s28_8_ok), trivial⟩, trivial⟩, trivial⟩, trivial⟩, trivial⟩, trivial⟩, trivial⟩, trivial⟩, trivial⟩⟩, ⟨⟨⟨⟨⟨⟨⟨⟨⟨⟨(smsB_ok s28_4_ok), trivial⟩, trivial⟩, trivial⟩, trivial⟩, trivial⟩, trivial⟩, trivial⟩, trivial⟩, trivial⟩, trivial⟩⟩, ⟨⟨trivial, ⟨⟨⟨⟨⟨trivial, ⟨⟨⟨⟨(smsB_ok s28_266_ok), trivial⟩, trivial⟩, trivial⟩, trivial⟩⟩, trivial⟩, trivial⟩, trivial⟩, trivial⟩⟩, trivial⟩⟩, ⟨⟨⟨⟨⟨⟨⟨⟨⟨⟨⟨⟨(smsB_ok s28_1_ok), trivial⟩, trivial⟩, trivial⟩, trivial⟩, trivial⟩, trivial⟩, trivial⟩, trivial⟩, trivial⟩, trivial⟩, trivial⟩, trivial⟩⟩
def sm28 : List V → H → Fa → K → Nat := smHook mc28 (ssT smT28) 28 call0
def smT37 : Tr (List Sm) := (.node (.node (.node (.node (.node (.node (.node (.node (.node (.node (.node .nil (.node (.node (.leaf s37_1024) .nil) .nil)) .nil) .nil) (.node (.node (.node .nil (.node (.node (.leaf s37_1152) .nil) .nil)) .nil) .nil)) (.node (.node (.node (.node .nil (.node (.node (.leaf s37_1088) .nil) .nil)) .nil) .nil) (.node (.node (.node .nil (.node (.node (.leaf s37_1216) .nil) .nil)) .nil) .nil))) .nil) .nil) .nil) .nil) .nil) .nil)
theorem smT37_ok : TrP (SmsOk mc37 37 call0) smT37 := ⟨⟨⟨⟨⟨⟨⟨⟨⟨⟨⟨trivial, ⟨⟨(smsB_ok s37_1024_ok), trivial⟩, trivial⟩⟩, trivial⟩, trivial⟩, ⟨⟨⟨trivial, ⟨⟨(smsB_ok s37_1152_ok), trivial⟩, trivial⟩⟩, trivial⟩, trivial⟩⟩, ⟨⟨⟨⟨trivial, ⟨⟨(smsB_ok s37_1088_ok), trivial⟩, trivial⟩⟩, trivial⟩, trivial⟩, ⟨⟨⟨trivial, ⟨⟨(smsB_ok s37_1216_ok), trivial⟩, trivial⟩⟩, trivial⟩, trivial⟩⟩⟩, trivial⟩, trivial⟩, trivial⟩, trivial⟩, trivial⟩, trivial⟩
def sm37 : List V → H → Fa → K → Nat := smHook mc37 (ssT smT37) 37 call0
def smT38 : Tr (List Sm) := (.node (.node (.node (.node (.node .nil (.node .nil (.node (.node (.node (.node (.node .nil (.node .nil (.node (.leaf s38_3120) .nil))) .nil) .nil) .nil) .nil))) .nil) (.node (.node .nil (.node .nil (.node (.node (.node (.node (.node .nil (.node .nil (.node (.leaf s38_3124) .nil))) .nil) .nil) .nil) .nil))) .nil)) .nil) .nil)
theorem smT38_ok : TrP (SmsOk mc38 38 call0) smT38 := ⟨⟨⟨⟨⟨trivial, ⟨trivial, ⟨⟨⟨⟨⟨trivial, ⟨trivial, ⟨(smsB_ok s38_3120_ok), trivial⟩⟩⟩, trivial⟩, trivial⟩, trivial⟩, trivial⟩⟩⟩, trivial⟩, ⟨⟨trivial, ⟨trivial, ⟨⟨⟨⟨⟨trivial, ⟨trivial, ⟨(smsB_ok s38_3124_ok), trivial⟩⟩⟩, trivial⟩, trivial⟩, trivial⟩, trivial⟩⟩⟩, trivial⟩⟩, trivial⟩, trivial⟩
def sm38 : List V → H → Fa → K → Nat := smHook mc38 (ssT smT38) 38 call0
def smT47 : Tr (List Sm) := (.node (.node (.node (.node .nil (.node (.node (.node (.node (.node (.node (.node (.node (.node (.leaf s47_8) .nil) .nil) .nil) .nil) .nil) .nil) .nil) .nil) .nil)) (.node (.node (.node (.node (.node (.node (.node (.node (.node (.node (.leaf s47_4) .nil) .nil) .nil) .nil) .nil) .nil) .nil) .nil) .nil) .nil)) (.node (.node .nil (.node (.node (.node (.node (.node .nil (.node (.node (.node (.node (.leaf s47_266) .nil) .nil) .nil) .nil)) .nil) .nil) .nil) .nil)) .nil)) .nil)
theorem smT47_ok : TrP (SmsOk mc47 47 call0) smT47 := ⟨⟨⟨⟨trivial, ⟨⟨⟨⟨⟨⟨⟨⟨⟨(smsB_ok s47_8_ok), trivial⟩, trivial⟩, trivial⟩, trivial⟩, trivial⟩, trivial⟩, trivial⟩, trivial⟩, trivial⟩⟩, ⟨⟨⟨⟨⟨⟨⟨⟨⟨⟨(smsB_ok s47_4_ok), trivial⟩, trivial⟩, trivial⟩, trivial⟩, trivial⟩, trivial⟩, trivial⟩, trivial⟩, trivial⟩, trivial⟩⟩, ⟨⟨trivial, ⟨⟨⟨⟨⟨trivial, ⟨⟨⟨⟨(smsB_ok s47_266_ok), trivial⟩, trivial⟩, trivial⟩, trivial⟩⟩, trivial⟩, trivial⟩, trivial⟩, trivial⟩⟩, trivial⟩⟩, trivial⟩
def sm47 : List V → H → Fa → K → Nat := smHook mc47 (ssT smT47) 47 call0
def smX (F : Nat) : Option (List V → H → Fa → K → Nat) := (bc (Nat.beq F 15) (some sm15) (bc (Nat.beq F 16) (some sm16) (bc (Nat.beq F 28) (some sm28) (bc (Nat.beq F 37) (some sm37) (bc (Nat.beq F 38) (some sm38) (bc (Nat.beq F 47) (some sm47) none))))))
def cxS : Cx := ⟨fnX, smX, 20000⟩
def callS1 : CallT := callT cxS 100
def it39 : ItrT := itrT yc39 callS1 39 20000
def itrX (F : Nat) : Option ItrT := (bc (Nat.beq F 39) (some it39) none)
def rf10 : List V → H → Fa → K → Nat := rfnT yc10 rs10 callS1 10 20000 itrX
def cx1 : Cx := ⟨fnX, fun F => (bc (Nat.beq F 10) (some rf10) (smX F)), 20000⟩
def call1 : CallT := callT cx1 100
theorem y39 : (match Try.f39.body with | some c => cCodeY (tyOf Try.prog) Try.f39.ntmps c true | none => .bad) = yc39 := by kernel_rfl
theorem y10 : (match Try.f10.body with | some c => cCodeY (tyOf Try.prog) Try.f10.ntmps c true | none => .bad) = yc10 := by kernel_rfl
theorem e39 : Try.f39.results.toList = [] := by kernel_rfl
theorem e10 : cRes (tyOf Try.prog) Try.f10.results.toList = some rs10 := by kernel_rfl
variable {E : Env}
def LenOk (_ : Env) : Prop := True
def LenA (E : Env) : Prop := ∀ E' : Env, (∀ q, q ≠ 7 → E'.s q = E.s q) → LenOk E'
theorem LenA.one (h : LenA E) : LenOk E := h E (fun _ _ => rfl)
theorem hookOne {C : Nat → Option (List V → H → Fa → K → Nat)} {a : Nat} {s : List V → H → Fa → K → Nat} (hs : CallOk E Try.prog (fun G l h fa k => bc (Nat.beq G a) (s l h fa k) 1))
    (hC : ∀ F t, C F = some t → CallOk E Try.prog (fun G l h fa k => bc (Nat.beq G F) (t l h fa k) 1)) : ∀ F t, bc (Nat.beq F a) (some s) (C F) = some t → CallOk E Try.prog (fun G l h fa k => bc (Nat.beq G F) (t l h fa k) 1) := by
  intro F t h
  cases e : Nat.beq F a with
  | true =>
    rw [e] at h
    have h : some s = some t := h
    cases h
    have e : F = a := by simpa using e
    subst e
    exact hs
  | false => rw [e] at h; exact hC F t h
theorem hookNone : ∀ F t, (none : Option (List V → H → Fa → K → Nat)) = some t → CallOk E Try.prog (fun G l h fa k => bc (Nat.beq G F) (t l h fa k) 1) := fun F t h => by cases h
theorem cx0_ok (hlen : LenOk E) : CxOk E Try.prog (tyOf Try.prog) cx0 := ⟨tyOk_tyOf, mixedX, fun F i h => fnX_ok h, hookNone⟩
theorem call0_ok (hlen : LenOk E) : CallOk E Try.prog call0 := callT_run (cx0_ok hlen) 100
theorem smX_ok (hlen : LenA E) : ∀ F t, smX F = some t → CallOk E Try.prog (fun G l h fa k => bc (Nat.beq G F) (t l h fa k) 1) := hookOne (C := fun F => (bc (Nat.beq F 16) (some sm16) (bc (Nat.beq F 28) (some sm28) (bc (Nat.beq F 37) (some sm37) (bc (Nat.beq F 38) (some sm38) (bc (Nat.beq F 47) (some sm47) none)))))) (ss_ok (fun E' h => call0_ok (hlen E' h)) smT15_ok) (hookOne (C := fun F => (bc (Nat.beq F 28) (some sm28) (bc (Nat.beq F 37) (some sm37) (bc (Nat.beq F 38) (some sm38) (bc (Nat.beq F 47) (some sm47) none))))) (ss_ok (fun E' h => call0_ok (hlen E' h)) smT16_ok) (hookOne (C := fun F => (bc (Nat.beq F 37) (some sm37) (bc (Nat.beq F 38) (some sm38) (bc (Nat.beq F 47) (some sm47) none)))) (ss_ok (fun E' h => call0_ok (hlen E' h)) smT28_ok) (hookOne (C := fun F => (bc (Nat.beq F 38) (some sm38) (bc (Nat.beq F 47) (some sm47) none))) (ss_ok (fun E' h => call0_ok (hlen E' h)) smT37_ok) (hookOne (C := fun F => (bc (Nat.beq F 47) (some sm47) none)) (ss_ok (fun E' h => call0_ok (hlen E' h)) smT38_ok) (hookOne (C := fun F => none) (ss_ok (fun E' h => call0_ok (hlen E' h)) smT47_ok) (hookNone))))))
theorem cxS_ok (hlen : LenA E) : CxOk E Try.prog (tyOf Try.prog) cxS := ⟨tyOk_tyOf, mixedX, fun F i h => fnX_ok h, smX_ok hlen⟩
theorem callS1_ok (hlen : LenA E) : CallOk E Try.prog callS1 := callT_run (cxS_ok hlen) 100
theorem itrX_ok (hlen : LenA E) : ItrOk E Try.prog itrX := by
  intro G it h
  unfold itrX at h
  cases e39' : Nat.beq G 39 with
  | true =>
    rw [e39'] at h
    have h : some it39 = some it := h
    cases h
    have e : G = 39 := by simpa using e39'
    subst e
    refine ⟨Try.call39, fun s hand l h fa k hh hk hfa => ?_⟩
    have hy := y39
    split at hy
    · rename_i c hc
      unfold it39 at hk
      rw [← hy] at hk
      exact itr_ok tyOk_tyOf (callS1_ok hlen) Try.func39 hc e39 s hand l h fa k hh hk hfa
    · rename_i hc
      exact absurd hc (by have : Try.f39.body.isSome = true := by kernel_rfl
                          intro hn; rw [hn] at this; cases this)
  | false =>
  rw [e39'] at h
  cases h
theorem rf10_ok (hlen : LenA E) : CallOk E Try.prog (fun G l h fa k => bc (Nat.beq G 10) (rf10 l h fa k) 1) := by
  have hy := y10
  split at hy
  · rename_i c hc
    unfold rf10
    rw [← hy]
    exact rfn_ok tyOk_tyOf (callS1_ok hlen) (itrX_ok hlen) Try.func10 Try.call10 hc e10
  · rename_i hc
    exact absurd hc (by have : Try.f10.body.isSome = true := by kernel_rfl
                        intro hn; rw [hn] at this; cases this)
theorem cx1_ok (hlen : LenA E) : CxOk E Try.prog (tyOf Try.prog) cx1 := ⟨tyOk_tyOf, mixedX, fun F i h => fnX_ok h, hookOne (C := smX) (rf10_ok hlen) (smX_ok hlen)⟩
theorem call1_ok (hlen : LenA E) : CallOk E Try.prog call1 := callT_run (cx1_ok hlen) 100
end Go.Ev.X
end
