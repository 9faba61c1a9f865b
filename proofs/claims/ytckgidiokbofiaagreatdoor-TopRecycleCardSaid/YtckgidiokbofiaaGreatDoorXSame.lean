import Derived.Test.YtckgidiokbofiaaGreatDoorChecked
import Derived.WalkKit
import Derived.WalkSpells
import Derived.WalkLawsBesides
import Derived.Below
import Derived.Lib.Hide
import Derived.Deep.QuietTactic
import Derived.BigQuiet
set_option linter.unusedSimpArgs false
set_option linter.unusedVariables false
namespace Go.Proofs.YtckgidiokbofiaaGreatDoor
open Go.RowKit
theorem zof {w:World} {b:Nat} {xs:Array Value} {t:TypeId} (h:w.heap[b]? = some (.cells xs t (0,0))) (i:Nat):w.cell? ⟨b,i,none⟩=xs[i]?:=by
 simp[World.cell?,h]
set_option maxHeartbeats 2000000 in
theorem zq0 (w:World) (ba bb n ca cb:Nat) (xs ys:Array Value) (tx ty:TypeId) (f g:Nat->Int) (hn:n<=1000000000) (ha:w.heap[ba]? = some (.cells xs tx (0,0))) (hb:w.heap[bb]? = some (.cells ys ty (0,0)))
  (hx:∀ i,i<n->xs[i]? = some (.int .u64 (f i))) (hy:∀ i,i<n->ys[i]? = some (.int .u64 (g i))) :
  Calls Tryz.prog 17 #[.slice (some ⟨ba,0,none⟩) n ca,.slice (some ⟨bb,0,none⟩) n cb] w fun e w'=>(∃ r:Bool,e=.returned (.bool r)/\(r=true ↔ ∀ i,i<n->f i=g i))/\Below w.heap.size w w':=by
 have hal:ba<w.heap.size:=by
  rcases Nat.lt_or_ge ba w.heap.size with h | h
  ·exact h
  ·simp[Array.getElem?_eq_none h]at ha
 have hbl:bb<w.heap.size:=by
  rcases Nat.lt_or_ge bb w.heap.size with h | h
  ·exact h
  ·simp[Array.getElem?_eq_none h]at hb
 go_enter Tryz.func17,Tryz.ntmps17
 go_wp2
 go_loopw [5] (fun v wr=>∃ j:Nat,j<=n/\v=.int .i64 j/\Below w.heap.size w wr/\∀ i,i<j->f i=g i) (fun v _=>n - (intOf v).toNat)
 case atStart=>exact⟨0,by omega,rfl,Below.refl _ _,fun i hi=>absurd hi (by omega)⟩
 case round=>
  obtain⟨j,hj,rfl,hbel,hall⟩:=hrel
  have c1:j<n->wr.cell? ⟨ba,j,none⟩=some (.int .u64 (f j)):=fun h=>by rw[zof (by rw[hbel.block _ hal];exact ha),hx j h]
  have c2:j<n->wr.cell? ⟨bb,j,none⟩=some (.int .u64 (g j)):=fun h=>by rw[zof (by rw[hbel.block _ hbl];exact hb),hy j h]
  by_cases hlt:j<n
  ·have c1:=c1 hlt
   have c2:=c2 hlt
   by_cases hfg:f j=g j
   ·go_wp2
    go_quiet (fail)
    go_wp2
    go_roundw
    case rel=>exact⟨j+1,by omega,by go_num,⟨hbel.os,hbel.tape,hbel.output,hbel.size,hbel.block⟩,fun i hi=>by rcases Nat.lt_succ_iff_lt_or_eq.1 hi with h | rfl;exact hall i h;exact hfg⟩
    case measure=>simp[intOf];omega
   ·go_wp2
    go_quiet (fail)
    go_wp2
    go_ret
    exact⟨⟨false,rfl,⟨fun h=>(by cases h),fun h=>absurd (h j hlt) hfg⟩⟩,⟨hbel.os,hbel.tape,hbel.output,hbel.size,hbel.block⟩⟩
  ·obtain rfl:j=n:=by omega
   go_wp2
   go_ret
   exact⟨⟨true,rfl,⟨fun _=>hall,fun _=>rfl⟩⟩,hbel⟩
end Go.Proofs.YtckgidiokbofiaaGreatDoor
