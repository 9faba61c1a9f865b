/-
 PROVED: citadeltop.TopMemory returns true at every input; its arguments read as before. Condition: none; the laid tables start as the program's own text lays them (the card ties them).
-/
import Derived.Test.YtckgidiokbofiaaGreatDoorMOM2
import Derived.Test.YtckgidiokbofiaaGreatDoorMOM3
set_option linter.unusedSimpArgs false
set_option linter.unusedVariables false
noncomputable section
namespace Go.Proofs.YtckgidiokbofiaaGreatDoor
open Go Go.Ev Go.Ev.X Go.ChangeShapes Go.WideShapes Go.ChangeAt Go.RowKit
set_option maxRecDepth 1000000 in
theorem plain (f : FuncId) (fn : Func) (hf : Tryz.pinned.checked.prog.funcNamed "citadel/citadeltop.TopMemory" = some f) (hfn : Tryz.pinned.checked.prog.funcs[f]? = some fn) :
  false=Tryz.pinned.checked.prog.looks []/\∀ (j:Nat) t,fn.params[j]? = some t->Tryz.pinned.checked.prog.wantsStandIn t=false:=by
 obtain rfl : f = 3 := Option.some.inj ((show Tryz.prog.funcNamed "citadel/citadeltop.TopMemory" = some 3 by kernel_rfl).symm.trans hf) |>.symm
 obtain rfl:fn=Tryz.f3:=(Option.some.inj (Tryz.func3.symm.trans hfn)).symm
 refine⟨by kernel_rfl,fun j t ht=>?_⟩
 rw[Tryz.params3]at ht
 have hm:=Array.mem_of_getElem? ht
 simp only[List.mem_toArray,List.mem_cons,List.not_mem_nil,or_false]at hm
 subst hm
 ·exact(show Tryz.prog.wantsStandIn 22=false by kernel_rfl)
theorem card:Rows.TopMemoryCardSaid:=
 Claim7.holds_tied_plain_at .later [] _ _ _ _ said (fun _ h=>by cases h) (by kernel_rfl) (fun _ h=>by cases h) topMemory_row_tie rfl ⟨rfl,rfl⟩ (by kernel_rfl) rfl plain card_g
#print axioms card
end Go.Proofs.YtckgidiokbofiaaGreatDoor
end
