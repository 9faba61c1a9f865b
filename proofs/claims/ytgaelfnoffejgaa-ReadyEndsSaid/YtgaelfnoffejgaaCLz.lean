/-
 slices.Clone of words.
-/
import Derived.Test.YtgaelfnoffejgaaMB
import Derived.Test.YtgaelfnoffejgaaE5
import Derived.Shelf.RegionOpenPlain
import Derived.WalkKit
import Derived.Deep.LoopGhost
import Derived.Lib.Walk
import Derived.Lib.SliceRun
import Derived.Test.YtgaelfnoffejgaaEvLd
import Derived.Laws.CopyOwn
import Derived.Lib.Hide
import Derived.Deep.QuietTactic
import Derived.BigQuiet
set_option linter.unusedSimpArgs false
set_option linter.unusedVariables false
noncomputable section
namespace Go.Ev.X
open Go Go.RowKit Go.Lib Go.Proofs
end Go.Ev.X
end
/-
 One word laid into a memory by Load.
-/
set_option linter.unusedSimpArgs false
set_option linter.unusedVariables false
noncomputable section
namespace Go.Ev.X
open Go Go.Ev Go.RowKit Go.Lib Go.Proofs
theorem ret_span {oa : Option Addr} {x y c : Nat} (h : x = y) : Ending.returned (.tuple #[.slice oa x c, .bool true]) = .returned (.tuple #[.slice oa y c, .bool true]) := by rw [h]
set_option maxHeartbeats 1000000 in
theorem span_in (bm ba a k n : Nat) (w : World) (hi : n ≤ 65536) (c0 : w.cell? ⟨bm, 0, none⟩ = some (.slice (some ⟨ba, 0, none⟩) n n)) (ha : a < n) (hk : a + k ≤ n) :
  Calls Try.prog 43 #[.pointer (some ⟨bm, 0, none⟩), .int .i64 a, .int .i64 k] w fun e w' => e = .returned (.tuple #[.slice (some ⟨ba, a, none⟩) k (n - a), .bool true]) ∧ w = w' := by
 have nt : Try.f43.ntmps = 43 := rfl
 go_enter Try.func43, nt
 go_wp2
 go_ret2
 exact ⟨ret_span (by omega), rfl⟩
set_option maxHeartbeats 2000000 in
theorem span_out (bm ba : Nat) (a : Int) (n : Nat) (w : World) (hi : n ≤ 65536) (c0 : w.cell? ⟨bm, 0, none⟩ = some (.slice (some ⟨ba, 0, none⟩) n n)) (hb1 : -9223372036854775808 ≤ a) (hb2 : a ≤ 9223372036854775807) (hn : a < 0 ∨ (n : Int) ≤ a) :
  Calls Try.prog 43 #[.pointer (some ⟨bm, 0, none⟩), .int .i64 a, .int .i64 1] w fun e w' => e = .returned (.tuple #[.slice none 0 0, .bool false]) ∧ w = w' := by
 have nt : Try.f43.ntmps = 43 := rfl
 by_cases h1 : a < 0
 ·clear hn
  go_enter Try.func43, nt
  go_wp2
  go_ret2
  exact ⟨rfl, rfl⟩
 ·by_cases h3 : (n : Int) < a
  ·clear hn
   go_enter Try.func43, nt
   go_wp2
   go_ret2
   exact ⟨rfl, rfl⟩
  ·have h4 : (n : Int) - a < 1 := by omega
   clear hn
   go_enter Try.func43, nt
   go_wp2
   go_ret2
   exact ⟨rfl, rfl⟩
set_option maxHeartbeats 2000000 in
set_option maxRecDepth 100000 in
theorem load_in (bm ba bs a : Nat) (x : Int) (t : TypeId) (cs : Array Value) (w : World) (c0 : w.cell? ⟨bm, 0, none⟩ = some (.slice (some ⟨ba, 0, none⟩) 2048 2048)) (hg : w.heap[ba]? = some (.cells cs 33 (0, 0))) (hsz : cs.size = 2048) (ha : a < 2048) (cx : w.cell? ⟨bs, 0, none⟩ = some (.int .u64 x)) :
  Calls Try.prog 24 #[.pointer (some ⟨bm, 0, none⟩), .int .i64 a, .slice (some ⟨bs, 0, none⟩) 1 1] w fun e w' => e = .returned (.int .i64 0) ∧ w' = w.setRow ba (cs.toList.take a ++ ([Value.int .u64 x] ++ cs.toList.drop (a + 1))).toArray := by
 have t45 : Try.prog.underlying 45 = some (TypeDesc.slice 33) := by kernel_rfl
 have i33 : (Try.prog.info? 33).map (·.size) = some 1 := by kernel_rfl
 have HS := Lib.hid (span_in bm ba a 1 2048 w (by omega) c0 ha (by omega))
 have HG := Lib.hid hg
 have HX := Lib.hid cx
 clear hg cx c0
 have nt : Try.f24.ntmps = 22 := rfl
 go_enter Try.func24, nt
 go_wp2_with (go_at_call 43; refine HS.out.mono ?_; rintro e w' ⟨rfl, rfl⟩)
 rw [run_copy_row Try.prog w 45 45 3 33 ba a 1 (2048 - a) ⟨bs, 0, none⟩ 1 1 cs 33 [Value.int .u64 x] t45 i33 HG.out rfl ?qc1 ?qc2 ?qc3]
 case qc1 =>
  intro j v hj
  have hj1 : j < 1 := by have := (List.getElem?_eq_some_iff.1 hj).1; simpa using this
  obtain rfl : j = 0 := by omega
  simp at hj
  subst hj
  exact HX.out
 case qc2 => simp; omega
 case qc3 => intro v hv; simp at hv; subst hv; rfl
 go_wp2
 go_ret
 refine ⟨rfl, ?_⟩
 simp
set_option maxHeartbeats 2000000 in
theorem load_out (bm ba bs : Nat) (a : Int) (w : World) (c0 : w.cell? ⟨bm, 0, none⟩ = some (.slice (some ⟨ba, 0, none⟩) 2048 2048)) (hb1 : -9223372036854775808 ≤ a) (hb2 : a ≤ 9223372036854775807) (hn : a < 0 ∨ 2048 ≤ a) :
  Calls Try.prog 24 #[.pointer (some ⟨bm, 0, none⟩), .int .i64 a, .slice (some ⟨bs, 0, none⟩) 1 1] w fun e w' => e = .returned (.int .i64 20) ∧ w = w' := by
 have HS := Lib.hid (span_out bm ba a 2048 w (by omega) c0 hb1 hb2 (by omega))
 clear c0 hn
 have nt : Try.f24.ntmps = 22 := rfl
 go_enter Try.func24, nt
 go_wp2_with (go_at_call 43; refine HS.out.mono ?_; rintro e w' ⟨rfl, rfl⟩)
 go_wp2
 go_ret
 exact ⟨rfl, rfl⟩
end Go.Ev.X
end
