/-
  The tables, joined; functions that range.
-/
import Derived.Test.YtmpgbjeidhffiaaSC
set_option linter.unusedSimpArgs false
set_option linter.unusedVariables false
set_option maxRecDepth 100000
noncomputable section
namespace Go.Ev.X
open Go Go.Ev Go.Proofs
def fnTr : Tr IFn := .node (.node (.node (.node (.node (.node (.node (.nil) (.node (.node (.node (.leaf i64) (.nil)) (.nil)) (.nil))) (.node (.node (.node (.node (.leaf i32) (.nil)) (.nil)) (.nil)) (.node (.node (.node (.leaf i96) (.nil)) (.nil)) (.nil)))) (.node (.node (.node (.node (.node (.leaf i16) (.nil)) (.nil)) (.nil)) (.node (.node (.node (.leaf i80) (.nil)) (.nil)) (.nil))) (.node (.node (.node (.node (.leaf i48) (.nil)) (.nil)) (.nil)) (.nil)))) (.node (.node (.node (.node (.node (.node (.leaf i8) (.nil)) (.nil)) (.nil)) (.node (.node (.node (.leaf i72) (.nil)) (.nil)) (.nil))) (.node (.node (.node (.node (.leaf i40) (.nil)) (.nil)) (.nil)) (.nil))) (.node (.node (.node (.node (.node (.leaf i24) (.nil)) (.nil)) (.nil)) (.nil)) (.node (.node (.node (.node (.leaf i56) (.nil)) (.nil)) (.nil)) (.nil))))) (.node (.node (.node (.node (.node (.node (.node (.leaf i4) (.nil)) (.nil)) (.nil)) (.node (.node (.node (.leaf i68) (.nil)) (.nil)) (.nil))) (.node (.node (.node (.node (.leaf i36) (.nil)) (.nil)) (.nil)) (.nil))) (.node (.node (.node (.node (.node (.leaf i20) (.nil)) (.nil)) (.nil)) (.node (.node (.node (.leaf i84) (.nil)) (.nil)) (.nil))) (.node (.node (.node (.node (.leaf i52) (.nil)) (.nil)) (.nil)) (.nil)))) (.node (.node (.node (.nil) (.node (.node (.node (.leaf i76) (.nil)) (.nil)) (.nil))) (.node (.node (.node (.node (.leaf i44) (.nil)) (.nil)) (.nil)) (.nil))) (.node (.node (.node (.node (.node (.leaf i28) (.nil)) (.nil)) (.nil)) (.node (.node (.node (.leaf i92) (.nil)) (.nil)) (.nil))) (.node (.node (.node (.node (.leaf i60) (.nil)) (.nil)) (.nil)) (.nil)))))) (.node (.node (.node (.node (.node (.nil) (.node (.node (.node (.leaf i66) (.nil)) (.nil)) (.nil))) (.node (.node (.node (.node (.leaf i34) (.nil)) (.nil)) (.nil)) (.node (.node (.node (.leaf i98) (.nil)) (.nil)) (.nil)))) (.node (.node (.node (.node (.node (.leaf i18) (.nil)) (.nil)) (.nil)) (.node (.node (.node (.leaf i82) (.nil)) (.nil)) (.nil))) (.node (.node (.node (.node (.leaf i50) (.nil)) (.nil)) (.nil)) (.nil)))) (.node (.node (.node (.node (.node (.node (.leaf i10) (.nil)) (.nil)) (.nil)) (.node (.node (.node (.leaf i74) (.nil)) (.nil)) (.nil))) (.node (.node (.node (.node (.leaf i42) (.nil)) (.nil)) (.nil)) (.nil))) (.node (.node (.node (.node (.node (.leaf i26) (.nil)) (.nil)) (.nil)) (.node (.node (.node (.leaf i90) (.nil)) (.nil)) (.nil))) (.node (.node (.node (.node (.leaf i58) (.nil)) (.nil)) (.nil)) (.nil))))) (.node (.node (.node (.node (.node (.node (.node (.leaf i6) (.nil)) (.nil)) (.nil)) (.node (.node (.node (.leaf i70) (.nil)) (.nil)) (.nil))) (.node (.node (.node (.node (.leaf i38) (.nil)) (.nil)) (.nil)) (.nil))) (.node (.node (.node (.node (.node (.leaf i22) (.nil)) (.nil)) (.nil)) (.node (.node (.node (.leaf i86) (.nil)) (.nil)) (.nil))) (.node (.node (.node (.node (.leaf i54) (.nil)) (.nil)) (.nil)) (.nil)))) (.node (.node (.node (.node (.node (.node (.leaf i14) (.nil)) (.nil)) (.nil)) (.node (.node (.node (.leaf i78) (.nil)) (.nil)) (.nil))) (.node (.node (.node (.node (.leaf i46) (.nil)) (.nil)) (.nil)) (.nil))) (.node (.node (.node (.node (.node (.leaf i30) (.nil)) (.nil)) (.nil)) (.node (.node (.node (.leaf i94) (.nil)) (.nil)) (.nil))) (.node (.node (.node (.node (.leaf i62) (.nil)) (.nil)) (.nil)) (.nil))))))) (.node (.node (.node (.node (.node (.node (.nil) (.node (.node (.node (.leaf i65) (.nil)) (.nil)) (.nil))) (.node (.node (.node (.node (.leaf i33) (.nil)) (.nil)) (.nil)) (.node (.node (.node (.leaf i97) (.nil)) (.nil)) (.nil)))) (.node (.node (.node (.node (.node (.leaf i17) (.nil)) (.nil)) (.nil)) (.node (.node (.node (.leaf i81) (.nil)) (.nil)) (.nil))) (.node (.node (.node (.node (.leaf i49) (.nil)) (.nil)) (.nil)) (.nil)))) (.node (.node (.node (.node (.node (.node (.leaf i9) (.nil)) (.nil)) (.nil)) (.node (.node (.node (.leaf i73) (.nil)) (.nil)) (.nil))) (.node (.node (.node (.node (.leaf i41) (.nil)) (.nil)) (.nil)) (.nil))) (.node (.node (.node (.node (.node (.leaf i25) (.nil)) (.nil)) (.nil)) (.nil)) (.node (.node (.node (.node (.leaf i57) (.nil)) (.nil)) (.nil)) (.nil))))) (.node (.node (.node (.node (.node (.node (.node (.leaf i5) (.nil)) (.nil)) (.nil)) (.node (.node (.node (.leaf i69) (.nil)) (.nil)) (.nil))) (.node (.node (.node (.node (.leaf i37) (.nil)) (.nil)) (.nil)) (.nil))) (.node (.node (.node (.node (.node (.leaf i21) (.nil)) (.nil)) (.nil)) (.node (.node (.node (.leaf i85) (.nil)) (.nil)) (.nil))) (.node (.node (.node (.node (.leaf i53) (.nil)) (.nil)) (.nil)) (.nil)))) (.node (.node (.node (.node (.node (.node (.leaf i13) (.nil)) (.nil)) (.nil)) (.node (.node (.node (.leaf i77) (.nil)) (.nil)) (.nil))) (.node (.node (.node (.node (.leaf i45) (.nil)) (.nil)) (.nil)) (.nil))) (.node (.node (.node (.node (.node (.leaf i29) (.nil)) (.nil)) (.nil)) (.node (.node (.node (.leaf i93) (.nil)) (.nil)) (.nil))) (.node (.node (.node (.node (.leaf i61) (.nil)) (.nil)) (.nil)) (.nil)))))) (.node (.node (.node (.node (.node (.node (.node (.node (.leaf i3) (.nil)) (.nil)) (.nil)) (.node (.node (.node (.leaf i67) (.nil)) (.nil)) (.nil))) (.node (.node (.node (.node (.leaf i35) (.nil)) (.nil)) (.nil)) (.node (.node (.node (.leaf i99) (.nil)) (.nil)) (.nil)))) (.node (.node (.node (.node (.node (.leaf i19) (.nil)) (.nil)) (.nil)) (.node (.node (.node (.leaf i83) (.nil)) (.nil)) (.nil))) (.node (.node (.node (.node (.leaf i51) (.nil)) (.nil)) (.nil)) (.nil)))) (.node (.node (.node (.node (.node (.node (.leaf i11) (.nil)) (.nil)) (.nil)) (.node (.node (.node (.leaf i75) (.nil)) (.nil)) (.nil))) (.node (.node (.node (.node (.leaf i43) (.nil)) (.nil)) (.nil)) (.nil))) (.node (.node (.node (.node (.node (.leaf i27) (.nil)) (.nil)) (.nil)) (.node (.node (.node (.leaf i91) (.nil)) (.nil)) (.nil))) (.node (.node (.node (.node (.leaf i59) (.nil)) (.nil)) (.nil)) (.nil))))) (.node (.node (.node (.node (.node (.node (.node (.leaf i7) (.nil)) (.nil)) (.nil)) (.node (.node (.node (.leaf i71) (.nil)) (.nil)) (.nil))) (.node (.node (.node (.node (.leaf i39) (.nil)) (.nil)) (.nil)) (.nil))) (.node (.node (.node (.node (.node (.leaf i23) (.nil)) (.nil)) (.nil)) (.nil)) (.node (.node (.node (.node (.leaf i55) (.nil)) (.nil)) (.nil)) (.nil)))) (.node (.node (.node (.node (.node (.node (.leaf i15) (.nil)) (.nil)) (.nil)) (.node (.node (.node (.leaf i79) (.nil)) (.nil)) (.nil))) (.node (.node (.node (.node (.leaf i47) (.nil)) (.nil)) (.nil)) (.nil))) (.node (.node (.node (.node (.node (.leaf i31) (.nil)) (.nil)) (.nil)) (.node (.node (.node (.leaf i95) (.nil)) (.nil)) (.nil))) (.node (.node (.node (.node (.leaf i63) (.nil)) (.nil)) (.nil)) (.nil)))))))
def fnX (i : Nat) : Option IFn := bc (Nat.blt i 1024) (fnTr.get 10 i) none
theorem goodX : TrGood (Good Try.prog) 10 1 0 fnTr := (.intro (.intro (.intro (.intro (.intro (.intro (.intro trivial (.intro (.intro (.intro g64 trivial) trivial) trivial)) (.intro (.intro (.intro (.intro g32 trivial) trivial) trivial) (.intro (.intro (.intro g96 trivial) trivial) trivial))) (.intro (.intro (.intro (.intro (.intro g16 trivial) trivial) trivial) (.intro (.intro (.intro g80 trivial) trivial) trivial)) (.intro (.intro (.intro (.intro g48 trivial) trivial) trivial) trivial))) (.intro (.intro (.intro (.intro (.intro (.intro g8 trivial) trivial) trivial) (.intro (.intro (.intro g72 trivial) trivial) trivial)) (.intro (.intro (.intro (.intro g40 trivial) trivial) trivial) trivial)) (.intro (.intro (.intro (.intro (.intro g24 trivial) trivial) trivial) trivial) (.intro (.intro (.intro (.intro g56 trivial) trivial) trivial) trivial)))) (.intro (.intro (.intro (.intro (.intro (.intro (.intro g4 trivial) trivial) trivial) (.intro (.intro (.intro g68 trivial) trivial) trivial)) (.intro (.intro (.intro (.intro g36 trivial) trivial) trivial) trivial)) (.intro (.intro (.intro (.intro (.intro g20 trivial) trivial) trivial) (.intro (.intro (.intro g84 trivial) trivial) trivial)) (.intro (.intro (.intro (.intro g52 trivial) trivial) trivial) trivial))) (.intro (.intro (.intro trivial (.intro (.intro (.intro g76 trivial) trivial) trivial)) (.intro (.intro (.intro (.intro g44 trivial) trivial) trivial) trivial)) (.intro (.intro (.intro (.intro (.intro g28 trivial) trivial) trivial) (.intro (.intro (.intro g92 trivial) trivial) trivial)) (.intro (.intro (.intro (.intro g60 trivial) trivial) trivial) trivial))))) (.intro (.intro (.intro (.intro (.intro trivial (.intro (.intro (.intro g66 trivial) trivial) trivial)) (.intro (.intro (.intro (.intro g34 trivial) trivial) trivial) (.intro (.intro (.intro g98 trivial) trivial) trivial))) (.intro (.intro (.intro (.intro (.intro g18 trivial) trivial) trivial) (.intro (.intro (.intro g82 trivial) trivial) trivial)) (.intro (.intro (.intro (.intro g50 trivial) trivial) trivial) trivial))) (.intro (.intro (.intro (.intro (.intro (.intro g10 trivial) trivial) trivial) (.intro (.intro (.intro g74 trivial) trivial) trivial)) (.intro (.intro (.intro (.intro g42 trivial) trivial) trivial) trivial)) (.intro (.intro (.intro (.intro (.intro g26 trivial) trivial) trivial) (.intro (.intro (.intro g90 trivial) trivial) trivial)) (.intro (.intro (.intro (.intro g58 trivial) trivial) trivial) trivial)))) (.intro (.intro (.intro (.intro (.intro (.intro (.intro g6 trivial) trivial) trivial) (.intro (.intro (.intro g70 trivial) trivial) trivial)) (.intro (.intro (.intro (.intro g38 trivial) trivial) trivial) trivial)) (.intro (.intro (.intro (.intro (.intro g22 trivial) trivial) trivial) (.intro (.intro (.intro g86 trivial) trivial) trivial)) (.intro (.intro (.intro (.intro g54 trivial) trivial) trivial) trivial))) (.intro (.intro (.intro (.intro (.intro (.intro g14 trivial) trivial) trivial) (.intro (.intro (.intro g78 trivial) trivial) trivial)) (.intro (.intro (.intro (.intro g46 trivial) trivial) trivial) trivial)) (.intro (.intro (.intro (.intro (.intro g30 trivial) trivial) trivial) (.intro (.intro (.intro g94 trivial) trivial) trivial)) (.intro (.intro (.intro (.intro g62 trivial) trivial) trivial) trivial)))))) (.intro (.intro (.intro (.intro (.intro (.intro trivial (.intro (.intro (.intro g65 trivial) trivial) trivial)) (.intro (.intro (.intro (.intro g33 trivial) trivial) trivial) (.intro (.intro (.intro g97 trivial) trivial) trivial))) (.intro (.intro (.intro (.intro (.intro g17 trivial) trivial) trivial) (.intro (.intro (.intro g81 trivial) trivial) trivial)) (.intro (.intro (.intro (.intro g49 trivial) trivial) trivial) trivial))) (.intro (.intro (.intro (.intro (.intro (.intro g9 trivial) trivial) trivial) (.intro (.intro (.intro g73 trivial) trivial) trivial)) (.intro (.intro (.intro (.intro g41 trivial) trivial) trivial) trivial)) (.intro (.intro (.intro (.intro (.intro g25 trivial) trivial) trivial) trivial) (.intro (.intro (.intro (.intro g57 trivial) trivial) trivial) trivial)))) (.intro (.intro (.intro (.intro (.intro (.intro (.intro g5 trivial) trivial) trivial) (.intro (.intro (.intro g69 trivial) trivial) trivial)) (.intro (.intro (.intro (.intro g37 trivial) trivial) trivial) trivial)) (.intro (.intro (.intro (.intro (.intro g21 trivial) trivial) trivial) (.intro (.intro (.intro g85 trivial) trivial) trivial)) (.intro (.intro (.intro (.intro g53 trivial) trivial) trivial) trivial))) (.intro (.intro (.intro (.intro (.intro (.intro g13 trivial) trivial) trivial) (.intro (.intro (.intro g77 trivial) trivial) trivial)) (.intro (.intro (.intro (.intro g45 trivial) trivial) trivial) trivial)) (.intro (.intro (.intro (.intro (.intro g29 trivial) trivial) trivial) (.intro (.intro (.intro g93 trivial) trivial) trivial)) (.intro (.intro (.intro (.intro g61 trivial) trivial) trivial) trivial))))) (.intro (.intro (.intro (.intro (.intro (.intro (.intro (.intro g3 trivial) trivial) trivial) (.intro (.intro (.intro g67 trivial) trivial) trivial)) (.intro (.intro (.intro (.intro g35 trivial) trivial) trivial) (.intro (.intro (.intro g99 trivial) trivial) trivial))) (.intro (.intro (.intro (.intro (.intro g19 trivial) trivial) trivial) (.intro (.intro (.intro g83 trivial) trivial) trivial)) (.intro (.intro (.intro (.intro g51 trivial) trivial) trivial) trivial))) (.intro (.intro (.intro (.intro (.intro (.intro g11 trivial) trivial) trivial) (.intro (.intro (.intro g75 trivial) trivial) trivial)) (.intro (.intro (.intro (.intro g43 trivial) trivial) trivial) trivial)) (.intro (.intro (.intro (.intro (.intro g27 trivial) trivial) trivial) (.intro (.intro (.intro g91 trivial) trivial) trivial)) (.intro (.intro (.intro (.intro g59 trivial) trivial) trivial) trivial)))) (.intro (.intro (.intro (.intro (.intro (.intro (.intro g7 trivial) trivial) trivial) (.intro (.intro (.intro g71 trivial) trivial) trivial)) (.intro (.intro (.intro (.intro g39 trivial) trivial) trivial) trivial)) (.intro (.intro (.intro (.intro (.intro g23 trivial) trivial) trivial) trivial) (.intro (.intro (.intro (.intro g55 trivial) trivial) trivial) trivial))) (.intro (.intro (.intro (.intro (.intro (.intro g15 trivial) trivial) trivial) (.intro (.intro (.intro g79 trivial) trivial) trivial)) (.intro (.intro (.intro (.intro g47 trivial) trivial) trivial) trivial)) (.intro (.intro (.intro (.intro (.intro g31 trivial) trivial) trivial) (.intro (.intro (.intro g95 trivial) trivial) trivial)) (.intro (.intro (.intro (.intro g63 trivial) trivial) trivial) trivial)))))))
theorem fnX_ok {F : Nat} {i : IFn} (h : fnX F = some i) : Good Try.prog F i := by
  unfold fnX at h
  cases hb : Nat.blt F 1024 with
  | false => rw [hb] at h; cases h
  | true =>
    rw [hb] at h
    have := trGood_get 10 1 0 F fnTr i goodX (by simpa using hb) h
    simpa using this
def lenX : List V → H → Fa → K → Nat := pureHook len64F
def cx0 : Cx := ⟨fnX, fun _ => none, 20000⟩
def call0 : CallT := callT cx0 100
def it42 : ItrT := itrT yc42 call0 42 20000
def itrX (F : Nat) : Option ItrT := (bc (Nat.beq F 42) (some it42) none)
def rf12 : List V → H → Fa → K → Nat := rfnT yc12 rs12 call0 12 20000 itrX
def cx1 : Cx := ⟨fnX, fun F => (bc (Nat.beq F 12) (some rf12) none), 20000⟩
def call1 : CallT := callT cx1 100
theorem y42 : (match Try.f42.body with | some c => cCodeY (tyOf Try.prog) Try.f42.ntmps c true | none => .bad) = yc42 := by kernel_rfl
theorem y12 : (match Try.f12.body with | some c => cCodeY (tyOf Try.prog) Try.f12.ntmps c true | none => .bad) = yc12 := by kernel_rfl
theorem e42 : Try.f42.results.toList = [] := by kernel_rfl
theorem e12 : cRes (tyOf Try.prog) Try.f12.results.toList = some rs12 := by kernel_rfl
variable {E : Env}
def LenOk (_ : Env) : Prop := True
theorem hookOne {C : Nat → Option (List V → H → Fa → K → Nat)} {a : Nat} {s : List V → H → Fa → K → Nat} (hs : CallOk E Try.prog (fun G l h fa k => bc (Nat.beq G a) (s l h fa k) 1))
    (hC : ∀ F t, C F = some t → CallOk E Try.prog (fun G l h fa k => bc (Nat.beq G F) (t l h fa k) 1)) : ∀ F t, bc (Nat.beq F a) (some s) (C F) = some t → CallOk E Try.prog (fun G l h fa k => bc (Nat.beq G F) (t l h fa k) 1) := by
  intro F t h
  cases e : Nat.beq F a with
  | true =>
    rw [e] at h
    have h : some s = some t := h
    cases h
    have e : F = a := by simpa using e
    subst e
    exact hs
  | false => rw [e] at h; exact hC F t h
theorem hookNone : ∀ F t, (none : Option (List V → H → Fa → K → Nat)) = some t → CallOk E Try.prog (fun G l h fa k => bc (Nat.beq G F) (t l h fa k) 1) := fun F t h => by cases h
theorem cx0_ok (hlen : LenOk E) : CxOk E Try.prog (tyOf Try.prog) cx0 := ⟨tyOk_tyOf, mixedX, fun F i h => fnX_ok h, hookNone⟩
theorem call0_ok (hlen : LenOk E) : CallOk E Try.prog call0 := callT_run (cx0_ok hlen) 100
theorem itrX_ok (hlen : LenOk E) : ItrOk E Try.prog itrX := by
  intro G it h
  unfold itrX at h
  cases e42' : Nat.beq G 42 with
  | true =>
    rw [e42'] at h
    have h : some it42 = some it := h
    cases h
    have e : G = 42 := by simpa using e42'
    subst e
    refine ⟨Try.call42, fun s hand l h fa k hh hk hfa => ?_⟩
    have hy := y42
    split at hy
    · rename_i c hc
      unfold it42 at hk
      rw [← hy] at hk
      exact itr_ok tyOk_tyOf (call0_ok hlen) Try.func42 hc e42 s hand l h fa k hh hk hfa
    · rename_i hc
      exact absurd hc (by have : Try.f42.body.isSome = true := by kernel_rfl
                          intro hn; rw [hn] at this; cases this)
  | false =>
  rw [e42'] at h
  cases h
theorem rf12_ok (hlen : LenOk E) : CallOk E Try.prog (fun G l h fa k => bc (Nat.beq G 12) (rf12 l h fa k) 1) := by
  have hy := y12
  split at hy
  · rename_i c hc
    unfold rf12
    rw [← hy]
    exact rfn_ok tyOk_tyOf (call0_ok hlen) (itrX_ok hlen) Try.func12 Try.call12 hc e12
  · rename_i hc
    exact absurd hc (by have : Try.f12.body.isSome = true := by kernel_rfl
                        intro hn; rw [hn] at this; cases this)
theorem cx1_ok (hlen : LenOk E) : CxOk E Try.prog (tyOf Try.prog) cx1 := ⟨tyOk_tyOf, mixedX, fun F i h => fnX_ok h, hookOne (C := fun _ => none) (rf12_ok hlen) (hookNone)⟩
theorem call1_ok (hlen : LenOk E) : CallOk E Try.prog call1 := callT_run (cx1_ok hlen) 100
end Go.Ev.X
end
