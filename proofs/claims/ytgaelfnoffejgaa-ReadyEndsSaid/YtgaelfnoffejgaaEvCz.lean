/-
 Tables of contracts; what they do not tell is told by the code.
-/
import Derived.Test.YtgaelfnoffejgaaE6
set_option linter.unusedSimpArgs false
set_option linter.unusedVariables false
noncomputable section
namespace Go.Ev
open Go
variable {E : Env} {P : Program}
def cxI (inner : CallT) (C : Cx) (c : MC) (o : Nat) (es : List Ent) : Cx := ⟨C.fn, fun F => bc (anyF es F) (some fun l h fa k => mtH c (nthO o es) inner F l h fa k) (C.hook F), C.fuel⟩
theorem cxI_ok {Y : Ty} {inner : CallT} (hi : CallOk E P inner) {C : Cx} (hC : CxOk E P Y C) {c : MC} {o : Nat} {es : List Ent} (he : EntsOk P c E o es) : CxOk E P Y (cxI inner C c o es) := by
 refine ⟨hC.ty, hC.mixed, hC.fn, fun F s hs => ?_⟩
 have hs : bc (anyF es F) (some fun l h fa k => mtH c (nthO o es) inner F l h fa k) (C.hook F) = some s := hs
 cases h1 : anyF es F with
 | true =>
  rw [h1] at hs
  have hs := Option.some.inj (show (some fun l h fa k => mtH c (nthO o es) inner F l h fa k) = some s from hs)
  subst hs
  intro G l h fa k hk hfa
  obtain ⟨hG, hk2⟩ := bc_ok (show bc (Nat.beq G F) (mtH c (nthO o es) inner F l h fa k) 1 = 0 from hk) (by simp)
  have hG : G = F := by simpa using hG
  subst hG
  exact mtH_ok (nthO_ok he) hi _ _ _ _ _ hk2 hfa
 | false =>
  rw [h1] at hs
  exact hC.hook F s hs
end Go.Ev
end
/-
 A contract out of a chain of contracts: what is called, one behind the other; what else is called runs by its code.
-/
set_option linter.unusedSimpArgs false
set_option linter.unusedVariables false
noncomputable section
namespace Go.Ev
open Go
variable {E : Env} {P : Program} {c : MC}
structure Sh where
 F : Nat
 l : List V
 v : V
def entS : Nat → List Sh → List Ent
 | _, [] => []
 | i, s :: r => ⟨s.F, s.l, i + 1, s.v, .v (9000 + i)⟩ :: entS (i + 1) r
def sumS : SE → Nat → List Sh → SE
 | e, _, [] => e
 | e, i, _ :: r => sumS (.op .add .i64 e (.v (9000 + i))) (i + 1) r
def runCh (C : Cx) (c : MC) (sh : List Sh) (ps : List PEnt) (F : Nat) (l : List V) (fs : List (SB × Bool)) (v : V) : Nat :=
 callT (cxI (callT C 20) (cxM C c 0 [] ps) c 0 (entS 0 sh)) 20 F (.ptr (.o .h) 0 :: l) (hMem c 0 .nil) ⟨fs, []⟩ (okM c v sh.length .nil (sumS (.v 5) 0 sh))
def AgV (E : Env) (vs : Nat → Int) : Prop := ∀ i, i < 9000 → i ≠ 5 → E.i i = vs i
inductive Chain (P : Program) (c : MC) (vs : Nat → Int) : List Sh → (Nat → Int) → (Nat → Int) → Nat → Prop where
 | nil (f : Nat → Int) : Chain P c vs [] f f 0
 | cons {s : Sh} {r : List Sh} {f g f' : Nat → Int} {k K : Nat} {args : List Value} {ret : Value} : 1 ≤ k → MemC P c s.F args f ret g k → (∀ E, AgV E vs → ∀ ρ, γL E ρ s.l = args) → (∀ E, AgV E vs → ∀ ρ, s.v.γ E ρ = ret) → Chain P c vs r g f' K → Chain P c vs (s :: r) f f' (k + K)
theorem chain_app {vs : Nat → Int} {a b : List Sh} {f g f' : Nat → Int} {j k : Nat} (h : Chain P c vs a f g j) (h2 : Chain P c vs b g f' k) : Chain P c vs (a ++ b) f f' (j + k) := by
 induction h with
 | nil f => simpa using h2
 | cons h1 hm ha hv _ ih =>
  have := Chain.cons h1 hm ha hv (ih h2)
  rw [← Nat.add_assoc] at this
  exact this
theorem chain_env {vs : Nat → Int} {sh : List Sh} {f f' : Nat → Int} {K : Nat} (h : Chain P c vs sh f f' K) : ∀ i0, ∃ (ks : Nat → Nat) (rows : Nat → Nat → Int), rows i0 = f ∧ rows (i0 + sh.length) = f' ∧
  ∀ E : Env, AgV E vs → (∀ j, i0 ≤ j → j < i0 + sh.length → E.i (9000 + j) = (ks j : Nat)) → (∀ j, i0 ≤ j → j ≤ i0 + sh.length → WordsIs (E.s j).cs c.N (rows j)) → EntsOk P c E i0 (entS i0 sh) ∧ ∀ e k0 st, e.den E = stepI st k0 → (sumS e i0 sh).den E = stepI st (k0 + K) := by
 induction h with
 | nil f => exact fun i0 => ⟨fun _ => 0, fun _ => f, rfl, rfl, fun E _ _ _ => ⟨trivial, fun e k0 st he => he⟩⟩
 | @cons s r f g f' k K args ret h1 hm ha hv _ ih =>
  intro i0
  obtain ⟨ks, rows, r0, r1, hall⟩ := ih (i0 + 1)
  refine ⟨fun j => if j = i0 then k else ks j, fun j => if j = i0 then f else rows j, if_pos rfl, ?_, fun E hE hk hr => ?_⟩
  ·show (if i0 + (r.length + 1) = i0 then f else rows (i0 + (r.length + 1))) = f'
   rw [if_neg (by omega), show i0 + (r.length + 1) = i0 + 1 + r.length from by omega]; exact r1
  ·have hl : (s :: r).length = r.length + 1 := rfl
   rw [hl] at hk hr
   have w0 : WordsIs (E.s i0).cs c.N f := by
    have := hr i0 (by omega) (by omega)
    simp only [if_pos] at this
    exact this
   have w1 : WordsIs (E.s (i0 + 1)).cs c.N g := by
    have := hr (i0 + 1) (by omega) (by omega)
    simp only [if_neg (show ¬ i0 + 1 = i0 by omega), r0] at this
    exact this
   have hk0 : E.i (9000 + i0) = (k : Nat) := by have := hk i0 (by omega) (by omega); simp only [if_pos] at this; exact this
   obtain ⟨g1, g2⟩ := hall E hE (fun j h2 h3 => by have := hk j (by omega) (by omega); simp only [if_neg (show ¬ j = i0 by omega)] at this; exact this) (fun j h2 h3 => by have := hr j (by omega) (by omega); simp only [if_neg (show ¬ j = i0 by omega)] at this; exact this)
   refine ⟨⟨⟨f, g, k, h1, hk0, w0, w1, fun ρ => by
    show MemC P c s.F (γL E ρ s.l) f (s.v.γ E ρ) g k
    rw [ha E hE ρ, hv E hE ρ]; exact hm⟩, g1⟩, fun e k0 st he => ?_⟩
   have := g2 (.op .add .i64 e (.v (9000 + i0))) (k0 + k) st (stp_add he hk0 h1)
   rw [Nat.add_assoc] at this
   exact this
theorem memC_ch {Y : Ty} {C : Cx} (hC : ∀ E, CxOk E P Y C) (hN : c.N ≤ 8192) {F : Nat} {sh : List Sh} {ps : List PEnt} {l : List V} {fs : List (SB × Bool)} {v : V} {args : List Value} {ret : Value} (hr : runCh C c sh ps F l fs v = 0) (hl : bdLB .h l = true)
  {vs : Nat → Int} {f f' : Nat → Int} {K : Nat} (h : Chain P c vs sh f f' K) (hfs : ∀ E, AgV E vs → FsOk E fs) (hps : ∀ E, AgV E vs → PsOk P E ps) (ha : ∀ E, AgV E vs → ∀ ρ, γL E ρ l = args) (hv : ∀ E, AgV E vs → ∀ ρ, v.γ E ρ = ret) : MemC P c F args f ret f' K := by
 obtain ⟨ks, rows, r0, r1, hall⟩ := chain_env h 0
 rw [Nat.zero_add] at r1
 refine memC_of_run hN (bdLB_ok (n := .h) l hl) (fun i v _ hv => by rw [Tr.get_nil] at hv; cases hv) (fun st => ?_) hr
 obtain ⟨E, hE⟩ : ∃ E : Env, E = envX c.N st (fun i => if i < 9000 then vs i else (ks (i - 9000) : Nat)) rows := ⟨_, rfl⟩
 have e5 : E.i 5 = st := by rw [hE]; rfl
 have eA : AgV E vs := fun i h1 h2 => by
  rw [hE]
  show (if i = 5 then st else if i < 9000 then vs i else _) = _
  rw [if_neg h2, if_pos h1]
 have eW : ∀ q, WordsIs (E.s q).cs c.N (rows q) := fun q => by rw [hE]; exact rowF_is _ _
 obtain ⟨g1, g2⟩ := hall E eA (fun j _ _ => by
  rw [hE]
  show (if 9000 + j = 5 then st else if 9000 + j < 9000 then vs (9000 + j) else ((ks (9000 + j - 9000) : Nat) : Int)) = _
  rw [if_neg (by omega), if_neg (by omega), show 9000 + j - 9000 = j from by omega]) (fun j _ _ => eW j)
 refine ⟨E, e5, ?_, callT_run (cxI_ok (callT_run (hC E) 20) (cxM_ok (es := []) (hC E) trivial (ps_list (hps E eA))) g1) 20, fa_list (hfs E eA) trivial, ovIs_nil (by have := eW 0; rw [r0] at this; exact this), ovIs_nil (by have := eW sh.length; rw [r1] at this; exact this), ha E eA, hv E eA⟩
 have := g2 (.v 5) 0 st (by show E.i 5 = stepI st 0; rw [e5]; rfl)
 rw [Nat.zero_add] at this
 exact this
end Go.Ev
end
