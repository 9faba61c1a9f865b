import Derived.Test.YtcinokgfjdifbaaGreatSC
import Derived.Test.YtcinokgfjdifbaaGreatE4
import Derived.Test.YtcinokgfjdifbaaGreatSS0
set_option linter.unusedSimpArgs false
set_option linter.unusedVariables false
set_option maxRecDepth 100000
noncomputable section
namespace Go.Ev.X
open Go Go.Ev Go.Proofs
def smT13 : Tr (List Sm) := (.node (.node (.node (.node (.node (.node (.node (.node (.node (.node (.node .nil (.node (.node (.leaf zlF) .nil) .nil)) .nil) .nil) .nil) (.node (.node (.node (.node .nil (.node (.node (.leaf zlD) .nil) .nil)) .nil) .nil) .nil)) .nil) .nil) .nil) .nil) .nil) .nil)
theorem zq8 : TrP (zb8 mc13 13 zK) smT13 := ⟨⟨⟨⟨⟨⟨⟨⟨⟨⟨⟨trivial, ⟨⟨(zax zlE), trivial⟩, trivial⟩⟩, trivial⟩, trivial⟩, trivial⟩, ⟨⟨⟨⟨trivial, ⟨⟨(zax zlC), trivial⟩, trivial⟩⟩, trivial⟩, trivial⟩, trivial⟩⟩, trivial⟩, trivial⟩, trivial⟩, trivial⟩, trivial⟩, trivial⟩
def sm13 : List V -> H -> Fa -> K -> Nat := zcb mc13 (ssT smT13) 13 zK
def smT15 : Tr (List Sm) := (.node (.node (.node (.node (.node .nil (.node .nil (.node (.node (.node (.node (.node .nil (.node .nil (.node (.leaf zlB) .nil))) .nil) .nil) .nil) .nil))) .nil) .nil) .nil) .nil)
theorem zq7 : TrP (zb8 mc15 15 zK) smT15 := ⟨⟨⟨⟨⟨trivial, ⟨trivial, ⟨⟨⟨⟨⟨trivial, ⟨trivial, ⟨(zax zlA), trivial⟩⟩⟩, trivial⟩, trivial⟩, trivial⟩, trivial⟩⟩⟩, trivial⟩, trivial⟩, trivial⟩, trivial⟩
def sm15 : List V -> H -> Fa -> K -> Nat := zcb mc15 (ssT smT15) 15 zK
def smT38 : Tr (List Sm) := (.node (.node (.node (.node .nil (.node (.node (.node (.node (.node (.node (.node (.node (.node (.leaf s38_8) .nil) .nil) .nil) .nil) .nil) .nil) .nil) .nil) .nil)) (.node (.node (.node (.node (.node (.node (.node (.node (.node (.node (.leaf s38_4) .nil) .nil) .nil) .nil) .nil) .nil) .nil) .nil) .nil) .nil)) (.node (.node .nil (.node (.node (.node (.node (.node .nil (.node (.node (.node (.node (.leaf zon) .nil) .nil) .nil) .nil)) .nil) .nil) .nil) .nil)) .nil)) (.node (.node (.node (.node (.node (.node (.node (.node (.node (.node (.node (.node (.leaf s38_1) .nil) .nil) .nil) .nil) .nil) .nil) .nil) .nil) .nil) .nil) .nil) .nil))
theorem zq6 : TrP (zb8 mc38 38 zK) smT38 := ⟨⟨⟨⟨trivial, ⟨⟨⟨⟨⟨⟨⟨⟨⟨(zax zrm), trivial⟩, trivial⟩, trivial⟩, trivial⟩, trivial⟩, trivial⟩, trivial⟩, trivial⟩, trivial⟩⟩, ⟨⟨⟨⟨⟨⟨⟨⟨⟨⟨(zax zrn), trivial⟩, trivial⟩, trivial⟩, trivial⟩, trivial⟩, trivial⟩, trivial⟩, trivial⟩, trivial⟩, trivial⟩⟩, ⟨⟨trivial, ⟨⟨⟨⟨⟨trivial, ⟨⟨⟨⟨(zax znl), trivial⟩, trivial⟩, trivial⟩, trivial⟩⟩, trivial⟩, trivial⟩, trivial⟩, trivial⟩⟩, trivial⟩⟩, ⟨⟨⟨⟨⟨⟨⟨⟨⟨⟨⟨⟨(zax zro), trivial⟩, trivial⟩, trivial⟩, trivial⟩, trivial⟩, trivial⟩, trivial⟩, trivial⟩, trivial⟩, trivial⟩, trivial⟩, trivial⟩⟩
def sm38 : List V -> H -> Fa -> K -> Nat := zcb mc38 (ssT smT38) 38 zK
def smT59 : Tr (List Sm) := (.node (.node (.node (.node (.node (.node (.node (.node (.node (.node (.node .nil (.node (.node (.leaf zlz) .nil) .nil)) .nil) .nil) .nil) (.node (.node (.node (.node .nil (.node (.node (.leaf zlx) .nil) .nil)) .nil) .nil) .nil)) .nil) .nil) .nil) .nil) .nil) .nil)
theorem zq5 : TrP (zb8 mc59 59 zK) smT59 := ⟨⟨⟨⟨⟨⟨⟨⟨⟨⟨⟨trivial, ⟨⟨(zax zly), trivial⟩, trivial⟩⟩, trivial⟩, trivial⟩, trivial⟩, ⟨⟨⟨⟨trivial, ⟨⟨(zax zlw), trivial⟩, trivial⟩⟩, trivial⟩, trivial⟩, trivial⟩⟩, trivial⟩, trivial⟩, trivial⟩, trivial⟩, trivial⟩, trivial⟩
def sm59 : List V -> H -> Fa -> K -> Nat := zcb mc59 (ssT smT59) 59 zK
def smT82 : Tr (List Sm) := (.node (.node (.node (.node (.node .nil (.node .nil (.node (.node (.node (.node (.node .nil (.node .nil (.node (.leaf zlv) .nil))) .nil) .nil) .nil) .nil))) .nil) .nil) .nil) .nil)
theorem zq4 : TrP (zb8 mc82 82 zK) smT82 := ⟨⟨⟨⟨⟨trivial, ⟨trivial, ⟨⟨⟨⟨⟨trivial, ⟨trivial, ⟨(zax zlu), trivial⟩⟩⟩, trivial⟩, trivial⟩, trivial⟩, trivial⟩⟩⟩, trivial⟩, trivial⟩, trivial⟩, trivial⟩
def sm82 : List V -> H -> Fa -> K -> Nat := zcb mc82 (ssT smT82) 82 zK
def smT88 : Tr (List Sm) := (.node (.node (.node (.node .nil (.node (.node (.node (.node (.node (.node (.node (.node (.node (.leaf s88_8) .nil) .nil) .nil) .nil) .nil) .nil) .nil) .nil) .nil)) (.node (.node (.node (.node (.node (.node (.node (.node (.node (.node (.leaf s88_4) .nil) .nil) .nil) .nil) .nil) .nil) .nil) .nil) .nil) .nil)) (.node (.node .nil (.node (.node (.node (.node (.node .nil (.node (.node (.node (.node (.leaf zom) .nil) .nil) .nil) .nil)) .nil) .nil) .nil) .nil)) .nil)) .nil)
theorem zq3 : TrP (zb8 mc88 88 zK) smT88 := ⟨⟨⟨⟨trivial, ⟨⟨⟨⟨⟨⟨⟨⟨⟨(zax zrk), trivial⟩, trivial⟩, trivial⟩, trivial⟩, trivial⟩, trivial⟩, trivial⟩, trivial⟩, trivial⟩⟩, ⟨⟨⟨⟨⟨⟨⟨⟨⟨⟨(zax zrl), trivial⟩, trivial⟩, trivial⟩, trivial⟩, trivial⟩, trivial⟩, trivial⟩, trivial⟩, trivial⟩, trivial⟩⟩, ⟨⟨trivial, ⟨⟨⟨⟨⟨trivial, ⟨⟨⟨⟨(zax znk), trivial⟩, trivial⟩, trivial⟩, trivial⟩⟩, trivial⟩, trivial⟩, trivial⟩, trivial⟩⟩, trivial⟩⟩, trivial⟩
def sm88 : List V -> H -> Fa -> K -> Nat := zcb mc88 (ssT smT88) 88 zK
def smX (F : Nat) : Option (List V -> H -> Fa -> K -> Nat) := (bc (Nat.beq F 13) (some sm13) (bc (Nat.beq F 15) (some sm15) (bc (Nat.beq F 38) (some sm38) (bc (Nat.beq F 59) (some sm59) (bc (Nat.beq F 82) (some sm82) (bc (Nat.beq F 88) (some sm88) none))))))
def cxS : Cx := ⟨fnX, fun F => bc (Nat.beq F 135) (some lenX) (smX F), 20000⟩
def zn0 : z5 := za1 cxS 100
def it77 : zkW := itrT yc77 zn0 77 20000
def itrX (F : Nat) : Option zkW := (bc (Nat.beq F 77) (some it77) none)
def rf10 : List V -> H -> Fa -> K -> Nat := rfnT yc10 rs10 zn0 10 20000 itrX
def cx1 : Cx := ⟨fnX, fun F => bc (Nat.beq F 135) (some lenX) (bc (Nat.beq F 10) (some rf10) (smX F)), 20000⟩
def zf1 : z5 := za1 cx1 100
theorem y77 : (match Tryz.f77.body with | some c => yR (zP Tryz.prog) Tryz.f77.ntmps c true | none => .bad) = yc77 := by kernel_rfl
theorem y10 : (match Tryz.f10.body with | some c => yR (zP Tryz.prog) Tryz.f10.ntmps c true | none => .bad) = yc10 := by kernel_rfl
theorem e77 : Tryz.f77.results.toList = [] := by kernel_rfl
theorem e10 : zfI (zP Tryz.prog) Tryz.f10.results.toList = some rs10 := by kernel_rfl
variable {E : Env}
def zpf (E : Env) : Prop := zk E Tryz.prog (fun G l h fa k => bc (Nat.beq G 135) (lenX l h fa k) 1)
def ziH (E : Env) : Prop := ∀ E' : Env, (∀ q, q ≠ 7 -> E'.s q = E.s q) -> zpf E'
theorem ziH.one (h : ziH E) : zpf E := h E (fun _ _ => rfl)
theorem zbi {C : Nat -> Option (List V -> H -> Fa -> K -> Nat)} {a : Nat} {s : List V -> H -> Fa -> K -> Nat} (hs : zk E Tryz.prog (fun G l h fa k => bc (Nat.beq G a) (s l h fa k) 1))
  (hC : ∀ F t, C F = some t -> zk E Tryz.prog (fun G l h fa k => bc (Nat.beq G F) (t l h fa k) 1)) : ∀ F t, bc (Nat.beq F a) (some s) (C F) = some t -> zk E Tryz.prog (fun G l h fa k => bc (Nat.beq G F) (t l h fa k) 1) := by
 intro F t h
 cases e : Nat.beq F a with
 | true =>
  rw [e] at h
  have h : some s = some t := h
  cases h
  have e : F = a := by simpa using e
  subst e
  exact hs
 | false => rw [e] at h; exact hC F t h
theorem zmc : ∀ F t, (none : Option (List V -> H -> Fa -> K -> Nat)) = some t -> zk E Tryz.prog (fun G l h fa k => bc (Nat.beq G F) (t l h fa k) 1) := fun F t h => by cases h
theorem cx0_ok (hlen : zpf E) : CxOk E Tryz.prog (zP Tryz.prog) cx0 := ⟨zaw, zhk, fun F i h => znO h, zbi (C := fun _ => none) hlen zmc⟩
theorem zbZ (hlen : zpf E) : zk E Tryz.prog zK := jv (cx0_ok hlen) 100
theorem smX_ok (hlen : ziH E) : ∀ F t, smX F = some t -> zk E Tryz.prog (fun G l h fa k => bc (Nat.beq G F) (t l h fa k) 1) := zbi (C := fun F => (bc (Nat.beq F 15) (some sm15) (bc (Nat.beq F 38) (some sm38) (bc (Nat.beq F 59) (some sm59) (bc (Nat.beq F 82) (some sm82) (bc (Nat.beq F 88) (some sm88) none)))))) (ziM (fun E' h => zbZ (hlen E' h)) zq8) (zbi (C := fun F => (bc (Nat.beq F 38) (some sm38) (bc (Nat.beq F 59) (some sm59) (bc (Nat.beq F 82) (some sm82) (bc (Nat.beq F 88) (some sm88) none))))) (ziM (fun E' h => zbZ (hlen E' h)) zq7) (zbi (C := fun F => (bc (Nat.beq F 59) (some sm59) (bc (Nat.beq F 82) (some sm82) (bc (Nat.beq F 88) (some sm88) none)))) (ziM (fun E' h => zbZ (hlen E' h)) zq6) (zbi (C := fun F => (bc (Nat.beq F 82) (some sm82) (bc (Nat.beq F 88) (some sm88) none))) (ziM (fun E' h => zbZ (hlen E' h)) zq5) (zbi (C := fun F => (bc (Nat.beq F 88) (some sm88) none)) (ziM (fun E' h => zbZ (hlen E' h)) zq4) (zbi (C := fun F => none) (ziM (fun E' h => zbZ (hlen E' h)) zq3) (zmc))))))
theorem cxS_ok (hlen : ziH E) : CxOk E Tryz.prog (zP Tryz.prog) cxS := ⟨zaw, zhk, fun F i h => znO h, zbi (C := smX) hlen.one (smX_ok hlen)⟩
theorem zji (hlen : ziH E) : zk E Tryz.prog zn0 := jv (cxS_ok hlen) 100
theorem itrX_ok (hlen : ziH E) : zpg E Tryz.prog itrX := by
 intro G it h
 unfold itrX at h
 cases e77' : Nat.beq G 77 with
 | true =>
  rw [e77'] at h
  have h : some it77 = some it := h
  cases h
  have e : G = 77 := by simpa using e77'
  subst e
  refine ⟨Tryz.call77, fun s hand l h fa k hh hk hfa => ?_⟩
  have hy := y77
  split at hy
  ·rename_i c hc
   unfold it77 at hk
   rw [<- hy] at hk
   exact itr_ok zaw (zji hlen) Tryz.func77 hc e77 s hand l h fa k hh hk hfa
  ·rename_i hc
   exact absurd hc (by have : Tryz.f77.body.isSome = true := by kernel_rfl
                       intro hn; rw [hn] at this; cases this)
 | false =>
 rw [e77'] at h
 cases h
theorem rf10_ok (hlen : ziH E) : zk E Tryz.prog (fun G l h fa k => bc (Nat.beq G 10) (rf10 l h fa k) 1) := by
 have hy := y10
 split at hy
 ·rename_i c hc
  unfold rf10
  rw [<- hy]
  exact rfn_ok zaw (zji hlen) (itrX_ok hlen) Tryz.func10 Tryz.call10 hc e10
 ·rename_i hc
  exact absurd hc (by have : Tryz.f10.body.isSome = true := by kernel_rfl
                      intro hn; rw [hn] at this; cases this)
theorem cx1_ok (hlen : ziH E) : CxOk E Tryz.prog (zP Tryz.prog) cx1 := ⟨zaw, zhk, fun F i h => znO h, zbi (C := fun F => bc (Nat.beq F 10) (some rf10) ((smX) F)) hlen.one (zbi (C := smX) (rf10_ok hlen) (smX_ok hlen))⟩
theorem zdA (hlen : ziH E) : zk E Tryz.prog zf1 := jv (cx1_ok hlen) 100
end Go.Ev.X
end
