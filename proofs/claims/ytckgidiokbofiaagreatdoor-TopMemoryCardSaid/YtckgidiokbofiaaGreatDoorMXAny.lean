import Derived.Test.YtckgidiokbofiaaGreatDoorChecked
import Derived.WalkKit
import Derived.WalkSpells
import Derived.WalkLawsBesides
import Derived.Below
import Derived.Lib.Hide
set_option linter.unusedSimpArgs false
set_option linter.unusedVariables false
namespace Go.Proofs.YtckgidiokbofiaaGreatDoor
open Go.RowKit
theorem zBn {w:World} {b:Nat} {xs:Array Value} {t:TypeId} (h:w.heap[b]? = some (.cells xs t (0,0))) (i:Nat):w.cell? ⟨b,i,none⟩=xs[i]?:=by
 simp[World.cell?,h]
theorem zwm (x:Int) (w:World):Calls Tryz.prog 239 #[.int .u64 x] w fun e w'=>e=.returned (.bool (decide (x≠0)))/\w'=w:=by
 by_cases hx:x=0
 ·subst hx
  go_enter Tryz.func239,Tryz.ntmps239
  go_wp2
  go_ret
  exact⟨rfl,rfl⟩
 ·go_enter Tryz.func239,Tryz.ntmps239
  go_wp2
  go_ret
  exact⟨by simp[hx],rfl⟩
set_option maxHeartbeats 2000000 in
theorem zAI (w:World) (b off n c:Nat) (xs:Array Value) (t:TypeId) (f:Nat->Int) (hn:off+n<=1000000000) (ha:w.heap[b]? = some (.cells xs t (0,0))) (hx:∀ i,i<n->xs[off+i]? = some (.int .u64 (f i))) :
  Calls Tryz.prog 282 #[.slice (some ⟨b,off,none⟩) n c,.func (.func 239) #[] #[]] w fun e w'=>(∃ r:Int,e=.returned (.int .i64 r)/\(0<=r ↔ ∃ i,i<n/\f i≠0))/\w'=w:=by
 have hc:∀ j,j<n->w.cell? ⟨b,off+j,none⟩=some (.int .u64 (f j)):=fun j h=>by rw[zBn ha,hx j h]
 go_enter Tryz.func282,Tryz.ntmps282
 go_wp2
 go_loopw [8] (fun v wr=>∃ j:Nat,j<=n/\v=.int .i64 j/\wr=w/\∀ i,i<j->f i=0) (fun v _=>n - (intOf v).toNat)
 case atStart=>exact⟨0,by omega,rfl,rfl,fun i hi=>absurd hi (by omega)⟩
 case round=>
  obtain⟨j,hj,rfl,rfl,hall⟩:=hrel
  by_cases hlt:j<n
  ·have c1:=hc j hlt
   by_cases hfg:f j=0
   ·go_wp2_with (go_at_call 239;refine(zwm _ _).mono ?_;rintro e w' ⟨rfl,rfl⟩)
    go_roundw
    case rel=>exact⟨j+1,by omega,by go_num,trivial,fun i hi=>by rcases Nat.lt_succ_iff_lt_or_eq.1 hi with h | rfl;exact hall i h;exact hfg⟩
    case measure=>simp[intOf];omega
   ·go_wp2_with (go_at_call 239;refine(zwm _ _).mono ?_;rintro e w' ⟨rfl,rfl⟩)
    go_ret
    exact⟨⟨j,rfl,⟨fun _=>⟨j,hlt,hfg⟩,fun _=>by omega⟩⟩,rfl⟩
  ·obtain rfl:j=n:=by omega
   go_wp2
   go_ret
   exact⟨⟨-1,rfl,⟨fun h=>absurd h (by omega),fun ⟨i,h1,h2⟩=>absurd (hall i h1) h2⟩⟩,rfl⟩
theorem zBK (w:World) (b off n c:Nat) (xs:Array Value) (t:TypeId) (f:Nat->Int) (hn:off+n<=1000000000) (ha:w.heap[b]? = some (.cells xs t (0,0))) (hx:∀ i,i<n->xs[off+i]? = some (.int .u64 (f i))) :
  Calls Tryz.prog 238 #[.slice (some ⟨b,off,none⟩) n c,.func (.func 239) #[] #[]] w fun e w'=>(∃ r:Bool,e=.returned (.bool r)/\(r=true ↔ ∃ i,i<n/\f i≠0))/\w'=w:=by
 have H:=zAI w b off n c xs t f hn ha hx
 go_enter Tryz.func238,Tryz.ntmps238
 go_wp2_with (go_at_call 282;refine H.mono ?_;rintro e w' ⟨⟨r,rfl,hr⟩,rfl⟩)
 go_ret
 exact⟨⟨_,rfl,by simp⟩,rfl⟩
end Go.Proofs.YtckgidiokbofiaaGreatDoor
