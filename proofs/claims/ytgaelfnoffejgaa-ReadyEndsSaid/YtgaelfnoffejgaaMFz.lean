/-
 Contracts of pushing (the document).
-/
import Derived.Test.YtgaelfnoffejgaaMQz
import Derived.Test.YtgaelfnoffejgaaMPz
import Derived.Test.YtgaelfnoffejgaaMHp
set_option linter.unusedSimpArgs false
set_option linter.unusedVariables false
set_option maxRecDepth 100000
noncomputable section
namespace Go.Ev.X
open Go Go.Ev Go.Proofs
variable {f : Nat → Int} {Q : Nat → List Nat} {t : Nat}
end Go.Ev.X
end
/-
 Contracts of dropping (the document).
-/
set_option linter.unusedSimpArgs false
set_option linter.unusedVariables false
set_option maxRecDepth 100000
noncomputable section
namespace Go.Ev.X
open Go Go.Ev Go.Proofs
variable {f : Nat → Int} {Q : Nat → List Nat} {t : Nat}
end Go.Ev.X
end
/-
 Pushing and dropping, whole (the document).
-/
set_option linter.unusedSimpArgs false
set_option linter.unusedVariables false
set_option maxRecDepth 100000
noncomputable section
namespace Go.Ev.X
open Go Go.Ev Go.Proofs
variable {f : Nat → Int} {Q : Nat → List Nat} {t : Nat}
end Go.Ev.X
end
/-
 What is refused: one who waits is not pushed; one who does not is not dropped.
-/
set_option linter.unusedSimpArgs false
set_option linter.unusedVariables false
set_option maxRecDepth 100000
noncomputable section
namespace Go.Ev.X
open Go Go.Ev Go.Proofs
variable {E : Env} {f f' : Nat → Int} {Q : Nat → List Nat} {t : Nat}
def thE (F : Nat) : List Ent := [⟨F, [.si .i64 (.v 1)], 1, .tup [tD 100, .i .i64 0], .v 9000⟩]
def f103 (b : Bool) : Fa := ⟨[(.cmp .eql (.v 103) (.lit 1), b)], []⟩
def fullVs (f : Nat → Int) (t : Nat) : Nat → Int := fun i => match i / 100 with
 | 0 => (t : Int)
 | 1 => fldT (getT f t) (regs f t) (i % 100)
 | 90 => 20
 | _ => 0
theorem thE_ok {c : MC} {F : Nat} {st : Int} (hm : MemC PP c F [.int .i64 t] f (.tuple #[thV (getT f t) (regs f t), .int .i64 0]) f 20) : EntsOk PP c (envX c.N st (fullVs f t) fun _ => f) 0 (thE F) :=
 ⟨ent_y (k := 20) hm (by omega) rfl (fun ρ => rfl) (fun ρ => tupT (thG rfl rfl rfl (vsb (sbq rfl)) rfl rfl rfl rfl (vsb (sbq rfl)) (vsb (sbq rfl)) rfl rfl rfl rfl rfl rfl rfl rfl rfl rfl rfl rfl rfl rfl rfl rfl rfl rfl rfl rfl)), trivial⟩
theorem refused {c : MC} (hN : c.N ≤ 8192) {F F' : Nat} {b : Bool} {l : List V} {args : List Value} {n : Int} (hr : runX cx0 c (thE F') [] F (.si .i64 (.v 1) :: l) (f103 b) (.i .i64 n) 1 s1 = 0) (hl : bdLB .h l = true) (ha : ∀ E ρ, γL E ρ l = args) (hq : (getT f t).q = b)
  (hm : MemC PP c F' [.int .i64 t] f (.tuple #[thV (getT f t) (regs f t), .int .i64 0]) f 20) : MemC PP c F (.int .i64 t :: args) f (.int .i64 n) f 20 :=
 memC_x (k := 0 + 20) hC0 hN hr hl (fullVs f t) (fun _ => f) fun st => ⟨stp_add (k := 0) (m := 20) rfl rfl (by omega), fa_list ⟨(sbq rfl).trans hq, trivial⟩ trivial, thE_ok hm, ps_list trivial, fun ρ => by
  show Value.int .i64 (t : Nat) :: γL _ ρ l = _
  rw [ha], fun ρ => rfl⟩
end Go.Ev.X
end
