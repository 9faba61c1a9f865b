/-
  Contract of the law's own does: an Op on a chip. No condition.
-/
import Derived.Test.YtbnceohegekihaaDoorChipD
set_option linter.unusedSimpArgs false
set_option linter.unusedVariables false
namespace Go.Proofs.YtbnceohegekihaaDoor
open Go.RowKit

structure OpV where
  what : Int
  line : Int
  on : Bool
  x : BitVec 64
structure St where
  p : BitVec 16
  m : BitVec 16
  n : BitVec 32
abbrev opCells (z : OpV) : Array Value := #[.int .i64 z.what, .int .i64 z.line, .bool z.on, .int .u64 (z.x.toNat : Int)]
def raiseSt (l : Int) (s : St) : St := { s with p := s.p ||| bit l }
def clearSt (l : Int) (s : St) : St := { s with p := s.p &&& ~~~bit l }
def maskSt (l : Int) (on : Bool) (s : St) : St := { s with m := if on then s.m ||| bit l else s.m &&& ~~~bit l }
def ackSt (l : Int) (s : St) : St := { s with p := s.p &&& ~~~bit l, m := s.m &&& ~~~bit l }
def tickSt (s : St) : St := { s with n := s.n + 1 }
def ofWord (x : BitVec 64) : St := { p := x.setWidth 16, m := (x >>> 16).setWidth 16, n := (x >>> 32).setWidth 32 }
def stepOp (z : OpV) (s : St) : St :=
  if z.what = 1 then raiseSt z.line s else if z.what = 2 then clearSt z.line s else if z.what = 3 then maskSt z.line z.on s else if z.what = 7 then ackSt z.line s
  else if z.what = 4 then tickSt s else if z.what = 5 then ofWord z.x else s
def errOp (z : OpV) : Int := if z.what = 1 then errOf z.line else if z.what = 2 then errOf z.line else if z.what = 3 then errOf z.line else if z.what = 7 then errOf z.line else 0
def ChipS (w : World) (b : Nat) (s : St) : Prop := ChipAt w b s.p s.m s.n
def RetS (v : Value) (S : List Nat) (w : World) (b : Nat) (s : St) (e : Ending) (w' : World) : Prop := e = .returned v ∧ ChipS w' b s ∧ Kept S w w'

section
variable (b : Nat) (s : St) (w : World) (h : ChipS w b s)
include h
theorem raise_s (l : Int) : Calls Tryd.prog 10 #[.pointer (some ⟨b, 0, none⟩), .int .i64 l] w (RetS (.int .i64 (errOf l)) [b] w b (raiseSt l s)) := raise_c b _ _ _ l w h
theorem clear_s (l : Int) : Calls Tryd.prog 14 #[.pointer (some ⟨b, 0, none⟩), .int .i64 l] w (RetS (.int .i64 (errOf l)) [b] w b (clearSt l s)) := clear_c b _ _ _ l w h
theorem ack_s (l : Int) : Calls Tryd.prog 22 #[.pointer (some ⟨b, 0, none⟩), .int .i64 l] w (RetS (.int .i64 (errOf l)) [b] w b (ackSt l s)) := ack_c b _ _ _ l w h
theorem mask_s (l : Int) (on : Bool) : Calls Tryd.prog 12 #[.pointer (some ⟨b, 0, none⟩), .int .i64 l, .bool on] w (RetS (.int .i64 (errOf l)) [b] w b (maskSt l on s)) := by
  cases on
  · exact mask_false_c b _ _ _ l w h
  · exact mask_true_c b _ _ _ l w h
theorem tick_s : Calls Tryd.prog 19 #[.pointer (some ⟨b, 0, none⟩)] w (RetS (.tuple #[]) [b] w b (tickSt s)) := tick_c b _ _ _ w h
theorem restore_s (x : BitVec 64) : Calls Tryd.prog 9 #[.pointer (some ⟨b, 0, none⟩), .int .u64 (x.toNat : Int)] w (RetS (.tuple #[]) [b] w b (ofWord x)) := restore_c b _ _ _ x w h
theorem word_s : Calls Tryd.prog 11 #[.pointer (some ⟨b, 0, none⟩)] w (RetS (.int .u64 ((word s.p s.m s.n).toNat : Int)) [] w b s) := word_c b _ _ _ w h
theorem now_s : Calls Tryd.prog 28 #[.pointer (some ⟨b, 0, none⟩)] w (RetS (.int .i64 (s.n.toNat : Int)) [] w b s) := now_c b _ _ _ w h
theorem next_s (hT : Tab w) : Calls Tryd.prog 13 #[.pointer (some ⟨b, 0, none⟩)] w (RetS (nextOf s.p s.m) [] w b s) := next_c b _ _ _ w h hT
end

set_option maxHeartbeats 1000000 in
theorem does1_law (b : Nat) (z : OpV) (s : St) (w : World) (h : ChipS w b s) (hw : z.what = 1) :
    Calls Tryd.prog 15 #[.pointer (some ⟨b, 0, none⟩), .agg (opCells z)] w (RetS (.int .i64 (errOf z.line)) [b] w b (raiseSt z.line s)) := by
  have h1 : ChipS (w.alloc (.cells (opCells z) 39)) b s := at_alloc_old h
  have H := Lib.hid h1
  clear h h1
  obtain ⟨what, line, on, x⟩ := z
  obtain rfl : what = 1 := hw
  go_enter Tryd.func15, Tryd.ntmps15
  go_wp2_with (go_at_call 10; refine (raise_s b s _ H.out line).mono ?_; rintro e w' ⟨rfl, hc, hk⟩)
  go_ret
  exact ⟨rfl, hc, ((Kept.refl _ _).alloc _).trans (by assumption)⟩

set_option maxHeartbeats 1000000 in
theorem does2_law (b : Nat) (z : OpV) (s : St) (w : World) (h : ChipS w b s) (hw : z.what = 2) :
    Calls Tryd.prog 15 #[.pointer (some ⟨b, 0, none⟩), .agg (opCells z)] w (RetS (.int .i64 (errOf z.line)) [b] w b (clearSt z.line s)) := by
  have h1 : ChipS (w.alloc (.cells (opCells z) 39)) b s := at_alloc_old h
  have H := Lib.hid h1
  clear h h1
  obtain ⟨what, line, on, x⟩ := z
  obtain rfl : what = 2 := hw
  go_enter Tryd.func15, Tryd.ntmps15
  go_wp2_with (go_at_call 14; refine (clear_s b s _ H.out line).mono ?_; rintro e w' ⟨rfl, hc, hk⟩)
  go_ret
  exact ⟨rfl, hc, ((Kept.refl _ _).alloc _).trans (by assumption)⟩

set_option maxHeartbeats 1000000 in
theorem does3_law (b : Nat) (z : OpV) (s : St) (w : World) (h : ChipS w b s) (hw : z.what = 3) :
    Calls Tryd.prog 15 #[.pointer (some ⟨b, 0, none⟩), .agg (opCells z)] w (RetS (.int .i64 (errOf z.line)) [b] w b (maskSt z.line z.on s)) := by
  have h1 : ChipS (w.alloc (.cells (opCells z) 39)) b s := at_alloc_old h
  have H := Lib.hid h1
  clear h h1
  obtain ⟨what, line, on, x⟩ := z
  obtain rfl : what = 3 := hw
  go_enter Tryd.func15, Tryd.ntmps15
  go_wp2_with (go_at_call 12; refine (mask_s b s _ H.out line on).mono ?_; rintro e w' ⟨rfl, hc, hk⟩)
  go_ret
  exact ⟨rfl, hc, ((Kept.refl _ _).alloc _).trans (by assumption)⟩

set_option maxHeartbeats 1000000 in
theorem does7_law (b : Nat) (z : OpV) (s : St) (w : World) (h : ChipS w b s) (hw : z.what = 7) :
    Calls Tryd.prog 15 #[.pointer (some ⟨b, 0, none⟩), .agg (opCells z)] w (RetS (.int .i64 (errOf z.line)) [b] w b (ackSt z.line s)) := by
  have h1 : ChipS (w.alloc (.cells (opCells z) 39)) b s := at_alloc_old h
  have H := Lib.hid h1
  clear h h1
  obtain ⟨what, line, on, x⟩ := z
  obtain rfl : what = 7 := hw
  go_enter Tryd.func15, Tryd.ntmps15
  go_wp2_with (go_at_call 22; refine (ack_s b s _ H.out line).mono ?_; rintro e w' ⟨rfl, hc, hk⟩)
  go_ret
  exact ⟨rfl, hc, ((Kept.refl _ _).alloc _).trans (by assumption)⟩

set_option maxHeartbeats 1000000 in
theorem does4_law (b : Nat) (z : OpV) (s : St) (w : World) (h : ChipS w b s) (hw : z.what = 4) :
    Calls Tryd.prog 15 #[.pointer (some ⟨b, 0, none⟩), .agg (opCells z)] w (RetS (.int .i64 (0)) [b] w b (tickSt s)) := by
  have h1 : ChipS (w.alloc (.cells (opCells z) 39)) b s := at_alloc_old h
  have H := Lib.hid h1
  clear h h1
  obtain ⟨what, line, on, x⟩ := z
  obtain rfl : what = 4 := hw
  go_enter Tryd.func15, Tryd.ntmps15
  go_wp2_with (go_at_call 19; refine (tick_s b s _ H.out).mono ?_; rintro e w' ⟨rfl, hc, hk⟩)
  go_ret
  exact ⟨rfl, hc, ((Kept.refl _ _).alloc _).trans (by assumption)⟩

set_option maxHeartbeats 1000000 in
theorem does5_law (b : Nat) (z : OpV) (s : St) (w : World) (h : ChipS w b s) (hw : z.what = 5) :
    Calls Tryd.prog 15 #[.pointer (some ⟨b, 0, none⟩), .agg (opCells z)] w (RetS (.int .i64 (0)) [b] w b (ofWord z.x)) := by
  have h1 : ChipS (w.alloc (.cells (opCells z) 39)) b s := at_alloc_old h
  have H := Lib.hid h1
  clear h h1
  obtain ⟨what, line, on, x⟩ := z
  obtain rfl : what = 5 := hw
  go_enter Tryd.func15, Tryd.ntmps15
  go_wp2_with (go_at_call 9; refine (restore_s b s _ H.out x).mono ?_; rintro e w' ⟨rfl, hc, hk⟩)
  go_ret
  exact ⟨rfl, hc, ((Kept.refl _ _).alloc _).trans (by assumption)⟩

set_option maxHeartbeats 1000000 in
theorem does0_law (b : Nat) (z : OpV) (s : St) (w : World) (h : ChipS w b s) (h1 : z.what ≠ 1) (h2 : z.what ≠ 2) (h3 : z.what ≠ 3) (h7 : z.what ≠ 7) (h4 : z.what ≠ 4) (h5 : z.what ≠ 5) :
    Calls Tryd.prog 15 #[.pointer (some ⟨b, 0, none⟩), .agg (opCells z)] w (RetS (.int .i64 0) [b] w b s) := by
  have hx : ChipS (w.alloc (.cells (opCells z) 39)) b s := at_alloc_old h
  have H := Lib.hid hx
  clear h hx
  obtain ⟨what, line, on, x⟩ := z
  simp only [ne_eq] at h1 h2 h3 h4 h5 h7
  go_enter Tryd.func15, Tryd.ntmps15
  go_wp2
  go_ret
  exact ⟨rfl, H.out, (Kept.refl _ _).alloc _⟩

theorem does_law (b : Nat) (z : OpV) (s : St) (w : World) (h : ChipS w b s) :
    Calls Tryd.prog 15 #[.pointer (some ⟨b, 0, none⟩), .agg (opCells z)] w (RetS (.int .i64 (errOp z)) [b] w b (stepOp z s)) := by
  unfold stepOp errOp
  by_cases h1 : z.what = 1
  · simp only [h1, if_true]; exact does1_law b z s w h h1
  · by_cases h2 : z.what = 2
    · simp only [h1, h2, if_true, if_false]; exact does2_law b z s w h h2
    · by_cases h3 : z.what = 3
      · simp only [h1, h2, h3, if_true, if_false]; exact does3_law b z s w h h3
      · by_cases h7 : z.what = 7
        · simp only [h1, h2, h3, h7, if_true, if_false]; exact does7_law b z s w h h7
        · by_cases h4 : z.what = 4
          · simp only [h1, h2, h3, h7, h4, if_true, if_false]; exact does4_law b z s w h h4
          · by_cases h5 : z.what = 5
            · simp only [h1, h2, h3, h7, h4, h5, if_true, if_false]; exact does5_law b z s w h h5
            · simp only [h1, h2, h3, h7, h4, h5, if_false]; exact does0_law b z s w h h1 h2 h3 h7 h4 h5
end Go.Proofs.YtbnceohegekihaaDoor
