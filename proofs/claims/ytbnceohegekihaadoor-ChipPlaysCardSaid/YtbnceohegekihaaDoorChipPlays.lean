/-
  The law ChipPlays is true at every input. Condition: the table of math/bits holds what its text lays.
-/
import Derived.Test.YtbnceohegekihaaDoorRef3C
import Derived.Test.YtbnceohegekihaaDoorChipWord
set_option linter.unusedSimpArgs false
set_option linter.unusedVariables false
namespace Go.Proofs.YtbnceohegekihaaDoor.chipPlays
open Go.RowKit

/-- both stand alike -/
structure Both (w : World) (A B : Nat) (s : St) : Prop where
  chip : ChipS w A s
  ref : RefS w B s
  tab : Tab w
  ne : A ≠ B
  na : 0 ≠ A
  nb : 0 ≠ B
theorem Both.kept {w w' : World} {A B : Nat} {s : St} (h : Both w A B s) (hk : Kept [] w w') : Both w' A B s :=
  ⟨hk.at h.chip (by simp), hk.at h.ref (by simp), h.tab.kept hk (by simp), h.ne, h.na, h.nb⟩
/-- the program's has made a step -/
structure Half (w : World) (A B : Nat) (s s' : St) : Prop where
  chip : ChipS w A s'
  ref : RefS w B s
  tab : Tab w
  ne : A ≠ B
  na : 0 ≠ A
  nb : 0 ≠ B
theorem Both.first {w w' : World} {A B : Nat} {s s' : St} (h : Both w A B s) (hc : ChipS w' A s') (hk : Kept [A] w w') : Half w' A B s s' :=
  ⟨hc, hk.at h.ref (by simpa using Ne.symm h.ne), h.tab.kept hk (by simpa using h.na), h.ne, h.na, h.nb⟩
theorem Half.then {w w' : World} {A B : Nat} {s s' : St} (h : Half w A B s s') (hc : RefS w' B s') (hk : Kept [B] w w') : Both w' A B s' :=
  ⟨hk.at h.chip (by simpa using h.ne), hc, h.tab.kept hk (by simpa using h.nb), h.ne, h.na, h.nb⟩
theorem one {A : Nat} (B : Nat) {w w' : World} (h : Kept [A] w w') : Kept [A, B] w w' := h.mono (by intro x hx; have e : x = A := (by simpa using hx); simp [e])
theorem other (A : Nat) {B : Nat} {w w' : World} (h : Kept [B] w w') : Kept [A, B] w w' := h.mono (by intro x hx; have e : x = B := (by simpa using hx); simp [e])

set_option maxRecDepth 100000 in
set_option maxHeartbeats 2000000 in
theorem looks_c (A B : Nat) (s : St) (line : Int) (w : World) (h : Both w A B s) :
    Calls Tryd.prog 17 #[.pointer (some ⟨A, 0, none⟩), .pointer (some ⟨B, 0, none⟩), .int .i64 line] w fun e w' => e = .returned (.bool true) ∧ Both w' A B s ∧ Kept [] w w' := by
  obtain ⟨l, is, hn⟩ := chipWord.nextOf_form s.p s.m
  go_enter Tryd.func17, Tryd.ntmps17
  go_wp2_with fail
  refine (pending_s A s line _ h.chip).mono ?_
  rintro e w1 ⟨rfl, _, k1⟩
  have h1 := h.kept k1
  clear h
  go_wp2_with fail
  refine (rpending_s B s line _ h1.ref).mono ?_
  rintro e w2 ⟨rfl, _, k2⟩
  have h2 := h1.kept k2
  have k2 := k1.trans k2
  clear h1 k1
  go_wp2_with fail
  refine (masked_s A s line _ h2.chip).mono ?_
  rintro e w3 ⟨rfl, _, k3⟩
  have h3 := h2.kept k3
  have k3 := k2.trans k3
  clear h2 k2
  go_wp2_with fail
  refine (rmasked_s B s line _ h3.ref).mono ?_
  rintro e w4 ⟨rfl, _, k4⟩
  have h4 := h3.kept k4
  have k4 := k3.trans k4
  clear h3 k3
  go_wp2_with fail
  have x1 := next_s A s _ h4.chip h4.tab
  rw [hn] at x1
  refine x1.mono ?_
  clear x1
  rintro e w5 ⟨rfl, _, k5⟩
  have h5 := h4.kept k5
  have k5 := k4.trans k5
  clear h4 k4
  have x1 := rnext_s B s _ h5.ref
  rw [hn] at x1
  have X1 := Lib.hid x1
  clear x1 hn
  go_wp2_with fail
  refine X1.out.mono ?_
  clear X1
  rintro e w6 ⟨rfl, _, k6⟩
  have h6 := h5.kept k6
  have k6 := k5.trans k6
  clear h5 k5
  go_wp2_with fail
  refine (now_s A s _ h6.chip).mono ?_
  rintro e w7 ⟨rfl, _, k7⟩
  have h7 := h6.kept k7
  have k7 := k6.trans k7
  clear h6 k6
  go_wp2_with fail
  refine (word_s A s _ h7.chip).mono ?_
  rintro e w8 ⟨rfl, _, k8⟩
  have h8 := h7.kept k8
  have k8 := k7.trans k8
  clear h7 k7
  go_wp2_with fail
  refine (rword_s B s _ h8.ref).mono ?_
  rintro e w9 ⟨rfl, _, k9⟩
  have h9 := h8.kept k9
  have k9 := k8.trans k9
  clear h8 k8
  have cn := RefAt.n h9.ref
  have H9 := Lib.hid h9
  clear h9
  go_wp2
  go_ret
  exact ⟨rfl, H9.out, k9⟩

theorem rraise_s (b : Nat) (s : St) (l : Int) (w : World) (h : RefS w b s) (on : Bool) : Calls Tryd.prog 30 #[.pointer (some ⟨b, 0, none⟩), .int .i64 l, .bool on] w (RetR (.int .i64 (errOf l)) [b] w b (if on then raiseSt l s else clearSt l s)) := by
  have := rraise_c b s.p s.m s.n.toNat l on w h
  cases on
  · exact this
  · exact this
theorem rmask_s (b : Nat) (s : St) (l : Int) (w : World) (h : RefS w b s) (on : Bool) : Calls Tryd.prog 31 #[.pointer (some ⟨b, 0, none⟩), .int .i64 l, .bool on] w (RetR (.int .i64 (errOf l)) [b] w b (maskSt l on s)) := by
  have := rmask_c b s.p s.m s.n.toNat l on w h
  cases on
  · exact this
  · exact this
theorem rack_s (b : Nat) (s : St) (l : Int) (w : World) (h : RefS w b s) : Calls Tryd.prog 32 #[.pointer (some ⟨b, 0, none⟩), .int .i64 l] w (RetR (.int .i64 (errOf l)) [b] w b (ackSt l s)) := rack_c b s.p s.m s.n.toNat l w h

set_option maxRecDepth 100000 in
set_option maxHeartbeats 2000000 in
theorem plays1 (A B : Nat) (z : OpV) (s : St) (w : World) (h : Both w A B s) (hw : z.what = 1) :
    Calls Tryd.prog 18 #[.pointer (some ⟨A, 0, none⟩), .pointer (some ⟨B, 0, none⟩), .agg (opCells z)] w fun e w' => e = .returned (.bool true) ∧ Both w' A B (raiseSt z.line s) ∧ Kept [A, B] w w' := by
  have k0 : Kept [A, B] w (w.alloc (.cells (opCells z) 39)) := (Kept.refl _ _).alloc _
  have hx : Both (w.alloc (.cells (opCells z) 39)) A B s := h.kept ((Kept.refl _ _).alloc _)
  have bx : (w.alloc (.cells (opCells z) 39)).heap[w.heap.size]? = some (.cells (opCells z) 39) := at_alloc_new _ _
  have hAw : A < w.heap.size := size_of_at h.chip
  have hBw : B < w.heap.size := size_of_at h.ref
  have H := Lib.hid hx
  have K0 := Lib.hid k0
  have BX := Lib.hid bx
  clear h hx k0 bx
  obtain ⟨what, line, on, x⟩ := z
  obtain rfl : what = 1 := hw
  go_enter Tryd.func18, Tryd.ntmps18
  go_wp2_with fail
  refine (raise_s A s _ H.out.chip line).mono ?_
  rintro e w1 ⟨rfl, hc1, k1⟩
  have h1 := H.out.first hc1 k1
  have b1 := k1.at BX.out (by intro hx; have e : w.heap.size = A := (by simpa using hx); omega)
  have k1 := K0.out.trans (one B k1)
  clear H hc1 K0 BX
  have d0 := cell_of_at b1 0
  have d1 := cell_of_at b1 1
  have d2 := cell_of_at b1 2
  have d3 := cell_of_at b1 3
  simp at d0 d1 d2 d3
  go_wp2_with fail
  refine (rraise_s B s line _ h1.ref true).mono ?_
  rintro e w2 ⟨rfl, hc2, k2⟩
  have h2 := h1.then hc2 k2
  have b2 := k2.at b1 (by intro hx; have e : w.heap.size = B := (by simpa using hx); omega)
  have k2 := k1.trans (other A k2)
  clear h1 hc2 k1 b1 d0 d1 d2 d3
  have d1 := cell_of_at b2 1
  simp at d1
  clear b2
  go_wp2_with fail
  refine (looks_c A B _ line _ h2).mono ?_
  clear d1
  rintro e w3 ⟨rfl, h3, k3⟩
  have k3 := k2.trans k3.nil
  clear h2 k2
  go_wp2
  go_ret
  exact ⟨rfl, h3, k3⟩

set_option maxRecDepth 100000 in
set_option maxHeartbeats 2000000 in
theorem plays2 (A B : Nat) (z : OpV) (s : St) (w : World) (h : Both w A B s) (hw : z.what = 2) :
    Calls Tryd.prog 18 #[.pointer (some ⟨A, 0, none⟩), .pointer (some ⟨B, 0, none⟩), .agg (opCells z)] w fun e w' => e = .returned (.bool true) ∧ Both w' A B (clearSt z.line s) ∧ Kept [A, B] w w' := by
  have k0 : Kept [A, B] w (w.alloc (.cells (opCells z) 39)) := (Kept.refl _ _).alloc _
  have hx : Both (w.alloc (.cells (opCells z) 39)) A B s := h.kept ((Kept.refl _ _).alloc _)
  have bx : (w.alloc (.cells (opCells z) 39)).heap[w.heap.size]? = some (.cells (opCells z) 39) := at_alloc_new _ _
  have hAw : A < w.heap.size := size_of_at h.chip
  have hBw : B < w.heap.size := size_of_at h.ref
  have H := Lib.hid hx
  have K0 := Lib.hid k0
  have BX := Lib.hid bx
  clear h hx k0 bx
  obtain ⟨what, line, on, x⟩ := z
  obtain rfl : what = 2 := hw
  go_enter Tryd.func18, Tryd.ntmps18
  go_wp2_with fail
  refine (clear_s A s _ H.out.chip line).mono ?_
  rintro e w1 ⟨rfl, hc1, k1⟩
  have h1 := H.out.first hc1 k1
  have b1 := k1.at BX.out (by intro hx; have e : w.heap.size = A := (by simpa using hx); omega)
  have k1 := K0.out.trans (one B k1)
  clear H hc1 K0 BX
  have d0 := cell_of_at b1 0
  have d1 := cell_of_at b1 1
  have d2 := cell_of_at b1 2
  have d3 := cell_of_at b1 3
  simp at d0 d1 d2 d3
  go_wp2_with fail
  refine (rraise_s B s line _ h1.ref false).mono ?_
  rintro e w2 ⟨rfl, hc2, k2⟩
  have h2 := h1.then hc2 k2
  have b2 := k2.at b1 (by intro hx; have e : w.heap.size = B := (by simpa using hx); omega)
  have k2 := k1.trans (other A k2)
  clear h1 hc2 k1 b1 d0 d1 d2 d3
  have d1 := cell_of_at b2 1
  simp at d1
  clear b2
  go_wp2_with fail
  refine (looks_c A B _ line _ h2).mono ?_
  clear d1
  rintro e w3 ⟨rfl, h3, k3⟩
  have k3 := k2.trans k3.nil
  clear h2 k2
  go_wp2
  go_ret
  exact ⟨rfl, h3, k3⟩

set_option maxRecDepth 100000 in
set_option maxHeartbeats 2000000 in
theorem plays3 (A B : Nat) (z : OpV) (s : St) (w : World) (h : Both w A B s) (hw : z.what = 3) :
    Calls Tryd.prog 18 #[.pointer (some ⟨A, 0, none⟩), .pointer (some ⟨B, 0, none⟩), .agg (opCells z)] w fun e w' => e = .returned (.bool true) ∧ Both w' A B (maskSt z.line z.on s) ∧ Kept [A, B] w w' := by
  have k0 : Kept [A, B] w (w.alloc (.cells (opCells z) 39)) := (Kept.refl _ _).alloc _
  have hx : Both (w.alloc (.cells (opCells z) 39)) A B s := h.kept ((Kept.refl _ _).alloc _)
  have bx : (w.alloc (.cells (opCells z) 39)).heap[w.heap.size]? = some (.cells (opCells z) 39) := at_alloc_new _ _
  have hAw : A < w.heap.size := size_of_at h.chip
  have hBw : B < w.heap.size := size_of_at h.ref
  have H := Lib.hid hx
  have K0 := Lib.hid k0
  have BX := Lib.hid bx
  clear h hx k0 bx
  obtain ⟨what, line, on, x⟩ := z
  obtain rfl : what = 3 := hw
  go_enter Tryd.func18, Tryd.ntmps18
  go_wp2_with fail
  refine (mask_s A s _ H.out.chip line on).mono ?_
  rintro e w1 ⟨rfl, hc1, k1⟩
  have h1 := H.out.first hc1 k1
  have b1 := k1.at BX.out (by intro hx; have e : w.heap.size = A := (by simpa using hx); omega)
  have k1 := K0.out.trans (one B k1)
  clear H hc1 K0 BX
  have d0 := cell_of_at b1 0
  have d1 := cell_of_at b1 1
  have d2 := cell_of_at b1 2
  have d3 := cell_of_at b1 3
  simp at d0 d1 d2 d3
  go_wp2_with fail
  refine (rmask_s B s line _ h1.ref on).mono ?_
  rintro e w2 ⟨rfl, hc2, k2⟩
  have h2 := h1.then hc2 k2
  have b2 := k2.at b1 (by intro hx; have e : w.heap.size = B := (by simpa using hx); omega)
  have k2 := k1.trans (other A k2)
  clear h1 hc2 k1 b1 d0 d1 d2 d3
  have d1 := cell_of_at b2 1
  simp at d1
  clear b2
  go_wp2_with fail
  refine (looks_c A B _ line _ h2).mono ?_
  clear d1
  rintro e w3 ⟨rfl, h3, k3⟩
  have k3 := k2.trans k3.nil
  clear h2 k2
  go_wp2
  go_ret
  exact ⟨rfl, h3, k3⟩

set_option maxRecDepth 100000 in
set_option maxHeartbeats 2000000 in
theorem plays7 (A B : Nat) (z : OpV) (s : St) (w : World) (h : Both w A B s) (hw : z.what = 7) :
    Calls Tryd.prog 18 #[.pointer (some ⟨A, 0, none⟩), .pointer (some ⟨B, 0, none⟩), .agg (opCells z)] w fun e w' => e = .returned (.bool true) ∧ Both w' A B (ackSt z.line s) ∧ Kept [A, B] w w' := by
  have k0 : Kept [A, B] w (w.alloc (.cells (opCells z) 39)) := (Kept.refl _ _).alloc _
  have hx : Both (w.alloc (.cells (opCells z) 39)) A B s := h.kept ((Kept.refl _ _).alloc _)
  have bx : (w.alloc (.cells (opCells z) 39)).heap[w.heap.size]? = some (.cells (opCells z) 39) := at_alloc_new _ _
  have hAw : A < w.heap.size := size_of_at h.chip
  have hBw : B < w.heap.size := size_of_at h.ref
  have H := Lib.hid hx
  have K0 := Lib.hid k0
  have BX := Lib.hid bx
  clear h hx k0 bx
  obtain ⟨what, line, on, x⟩ := z
  obtain rfl : what = 7 := hw
  go_enter Tryd.func18, Tryd.ntmps18
  go_wp2_with fail
  refine (ack_s A s _ H.out.chip line).mono ?_
  rintro e w1 ⟨rfl, hc1, k1⟩
  have h1 := H.out.first hc1 k1
  have b1 := k1.at BX.out (by intro hx; have e : w.heap.size = A := (by simpa using hx); omega)
  have k1 := K0.out.trans (one B k1)
  clear H hc1 K0 BX
  have d0 := cell_of_at b1 0
  have d1 := cell_of_at b1 1
  have d2 := cell_of_at b1 2
  have d3 := cell_of_at b1 3
  simp at d0 d1 d2 d3
  go_wp2_with fail
  refine (rack_s B s line _ h1.ref).mono ?_
  rintro e w2 ⟨rfl, hc2, k2⟩
  have h2 := h1.then hc2 k2
  have b2 := k2.at b1 (by intro hx; have e : w.heap.size = B := (by simpa using hx); omega)
  have k2 := k1.trans (other A k2)
  clear h1 hc2 k1 b1 d0 d1 d2 d3
  have d1 := cell_of_at b2 1
  simp at d1
  clear b2
  go_wp2_with fail
  refine (looks_c A B _ line _ h2).mono ?_
  clear d1
  rintro e w3 ⟨rfl, h3, k3⟩
  have k3 := k2.trans k3.nil
  clear h2 k2
  go_wp2
  go_ret
  exact ⟨rfl, h3, k3⟩

set_option maxRecDepth 100000 in
set_option maxHeartbeats 2000000 in
theorem plays4 (A B : Nat) (z : OpV) (s : St) (w : World) (h : Both w A B s) (hw : z.what = 4) :
    Calls Tryd.prog 18 #[.pointer (some ⟨A, 0, none⟩), .pointer (some ⟨B, 0, none⟩), .agg (opCells z)] w fun e w' => e = .returned (.bool true) ∧ Both w' A B (tickSt s) ∧ Kept [A, B] w w' := by
  have k0 : Kept [A, B] w (w.alloc (.cells (opCells z) 39)) := (Kept.refl _ _).alloc _
  have hx : Both (w.alloc (.cells (opCells z) 39)) A B s := h.kept ((Kept.refl _ _).alloc _)
  have bx : (w.alloc (.cells (opCells z) 39)).heap[w.heap.size]? = some (.cells (opCells z) 39) := at_alloc_new _ _
  have hAw : A < w.heap.size := size_of_at h.chip
  have hBw : B < w.heap.size := size_of_at h.ref
  have H := Lib.hid hx
  have K0 := Lib.hid k0
  have BX := Lib.hid bx
  clear h hx k0 bx
  obtain ⟨what, line, on, x⟩ := z
  obtain rfl : what = 4 := hw
  go_enter Tryd.func18, Tryd.ntmps18
  go_wp2_with fail
  refine (tick_s A s _ H.out.chip).mono ?_
  rintro e w1 ⟨rfl, hc1, k1⟩
  have h1 := H.out.first hc1 k1
  have b1 := k1.at BX.out (by intro hx; have e : w.heap.size = A := (by simpa using hx); omega)
  have k1 := K0.out.trans (one B k1)
  clear H hc1 K0 BX
  have d0 := cell_of_at b1 0
  have d1 := cell_of_at b1 1
  have d2 := cell_of_at b1 2
  have d3 := cell_of_at b1 3
  simp at d0 d1 d2 d3
  go_wp2_with fail
  refine (rtick_s B s _ h1.ref).mono ?_
  rintro e w2 ⟨rfl, hc2, k2⟩
  have h2 := h1.then hc2 k2
  have b2 := k2.at b1 (by intro hx; have e : w.heap.size = B := (by simpa using hx); omega)
  have k2 := k1.trans (other A k2)
  clear h1 hc2 k1 b1 d0 d1 d2 d3
  have d1 := cell_of_at b2 1
  simp at d1
  clear b2
  go_wp2_with fail
  refine (looks_c A B _ line _ h2).mono ?_
  clear d1
  rintro e w3 ⟨rfl, h3, k3⟩
  have k3 := k2.trans k3.nil
  clear h2 k2
  go_wp2
  go_ret
  exact ⟨rfl, h3, k3⟩

set_option maxRecDepth 100000 in
set_option maxHeartbeats 2000000 in
theorem plays5 (A B : Nat) (z : OpV) (s : St) (w : World) (h : Both w A B s) (hw : z.what = 5) :
    Calls Tryd.prog 18 #[.pointer (some ⟨A, 0, none⟩), .pointer (some ⟨B, 0, none⟩), .agg (opCells z)] w fun e w' => e = .returned (.bool true) ∧ Both w' A B (ofWord z.x) ∧ Kept [A, B] w w' := by
  have k0 : Kept [A, B] w (w.alloc (.cells (opCells z) 39)) := (Kept.refl _ _).alloc _
  have hx : Both (w.alloc (.cells (opCells z) 39)) A B s := h.kept ((Kept.refl _ _).alloc _)
  have bx : (w.alloc (.cells (opCells z) 39)).heap[w.heap.size]? = some (.cells (opCells z) 39) := at_alloc_new _ _
  have hAw : A < w.heap.size := size_of_at h.chip
  have hBw : B < w.heap.size := size_of_at h.ref
  have H := Lib.hid hx
  have K0 := Lib.hid k0
  have BX := Lib.hid bx
  clear h hx k0 bx
  obtain ⟨what, line, on, x⟩ := z
  obtain rfl : what = 5 := hw
  go_enter Tryd.func18, Tryd.ntmps18
  go_wp2_with fail
  refine (restore_s A s _ H.out.chip x).mono ?_
  rintro e w1 ⟨rfl, hc1, k1⟩
  have h1 := H.out.first hc1 k1
  have b1 := k1.at BX.out (by intro hx; have e : w.heap.size = A := (by simpa using hx); omega)
  have k1 := K0.out.trans (one B k1)
  clear H hc1 K0 BX
  have d0 := cell_of_at b1 0
  have d1 := cell_of_at b1 1
  have d2 := cell_of_at b1 2
  have d3 := cell_of_at b1 3
  simp at d0 d1 d2 d3
  go_wp2_with fail
  refine (rrestore_s B s x _ h1.ref).mono ?_
  rintro e w2 ⟨rfl, hc2, k2⟩
  have h2 := h1.then hc2 k2
  have b2 := k2.at b1 (by intro hx; have e : w.heap.size = B := (by simpa using hx); omega)
  have k2 := k1.trans (other A k2)
  clear h1 hc2 k1 b1 d0 d1 d2 d3
  have d1 := cell_of_at b2 1
  simp at d1
  clear b2
  go_wp2_with fail
  refine (looks_c A B _ line _ h2).mono ?_
  clear d1
  rintro e w3 ⟨rfl, h3, k3⟩
  have k3 := k2.trans k3.nil
  clear h2 k2
  go_wp2
  go_ret
  exact ⟨rfl, h3, k3⟩

set_option maxRecDepth 100000 in
set_option maxHeartbeats 2000000 in
theorem plays0 (A B : Nat) (z : OpV) (s : St) (w : World) (h : Both w A B s) (h1 : ¬ z.what = 1) (h2 : ¬ z.what = 2) (h3 : ¬ z.what = 3) (h7 : ¬ z.what = 7) (h4 : ¬ z.what = 4) (h5 : ¬ z.what = 5) :
    Calls Tryd.prog 18 #[.pointer (some ⟨A, 0, none⟩), .pointer (some ⟨B, 0, none⟩), .agg (opCells z)] w fun e w' => e = .returned (.bool true) ∧ Both w' A B s ∧ Kept [A, B] w w' := by
  have k0 : Kept [A, B] w (w.alloc (.cells (opCells z) 39)) := (Kept.refl _ _).alloc _
  have hx : Both (w.alloc (.cells (opCells z) 39)) A B s := h.kept ((Kept.refl _ _).alloc _)
  have H := Lib.hid hx
  have K0 := Lib.hid k0
  clear h hx k0
  obtain ⟨what, line, on, x⟩ := z
  simp only at h1 h2 h3 h4 h5 h7
  go_enter Tryd.func18, Tryd.ntmps18
  go_wp2_with fail
  refine (looks_c A B _ line _ H.out).mono ?_
  rintro e w3 ⟨rfl, h3, k3⟩
  have k3 := K0.out.trans k3.nil
  go_wp2
  go_ret
  exact ⟨rfl, h3, k3⟩

theorem plays_c (A B : Nat) (z : OpV) (s : St) (w : World) (h : Both w A B s) :
    Calls Tryd.prog 18 #[.pointer (some ⟨A, 0, none⟩), .pointer (some ⟨B, 0, none⟩), .agg (opCells z)] w fun e w' => e = .returned (.bool true) ∧ Both w' A B (stepOp z s) ∧ Kept [A, B] w w' := by
  unfold stepOp
  by_cases h1 : z.what = 1
  · simp only [h1, if_true]; exact plays1 A B z s w h h1
  · by_cases h2 : z.what = 2
    · simp only [h1, h2, if_true, if_false]; exact plays2 A B z s w h h2
    · by_cases h3 : z.what = 3
      · simp only [h1, h2, h3, if_true, if_false]; exact plays3 A B z s w h h3
      · by_cases h7 : z.what = 7
        · simp only [h1, h2, h3, h7, if_true, if_false]; exact plays7 A B z s w h h7
        · by_cases h4 : z.what = 4
          · simp only [h1, h2, h3, h7, h4, if_true, if_false]; exact plays4 A B z s w h h4
          · by_cases h5 : z.what = 5
            · simp only [h1, h2, h3, h7, h4, h5, if_true, if_false]; exact plays5 A B z s w h h5
            · simp only [h1, h2, h3, h7, h4, h5, if_false]; exact plays0 A B z s w h h1 h2 h3 h7 h4 h5

set_option maxHeartbeats 400000 in
theorem long_walk (w : World) (oa : Option Addr) (n cap : Nat) (hl : 2147483647 < (n : Int)) (hm : (n : Int) ≤ 9223372036854775807) :
    Calls Tryd.prog 6 #[.slice oa n cap] w fun e w' => e = .returned (.bool true) ∧ Kept [] w w' := by
  go_enter Tryd.func6, Tryd.ntmps6
  go_wp2
  go_ret
  exact ⟨rfl, Kept.refl _ _⟩

set_option maxRecDepth 100000 in
set_option maxHeartbeats 2000000 in
theorem short_walk (w : World) (hT : Tab w) (oa : Option Addr) (n cap : Nat) (hq : OpsN w oa n) (hl : (n : Int) ≤ 2147483647) :
    Calls Tryd.prog 6 #[.slice oa n cap] w fun e w' => e = .returned (.bool true) ∧ Kept [] w w' := by
  have ha := awake_c w hT
  have H1 := Lib.hid hq
  clear hq
  have hz : 0 < w.heap.size := hT.size
  go_enter Tryd.func6, Tryd.ntmps6
  go_wp2_with fail
  refine ha.mono ?_
  clear ha
  rintro e w1 ⟨rfl, k1⟩
  have k1 : Kept [] w w1 := k1
  go_wp2_with fail
  refine (new_c _).mono ?_
  rintro e w2 ⟨rfl, a2, k2⟩
  have k2 := k1.trans k2
  have ka : w.heap.size ≤ w1.heap.size := k1.size
  have kb : w1.heap.size < w2.heap.size := size_of_at a2
  clear k1
  go_wp2_with fail
  refine (rnew_s _).mono ?_
  rintro e w3 ⟨rfl, b3, k3⟩
  have a3 : ChipS w3 w1.heap.size ⟨0, 65535#16, 0⟩ := k3.at a2 (by simp)
  have k3 := k2.trans k3
  have T := hT.kept k3 (by simp)
  clear k2 a2 hT
  go_wp2_with fail
  generalize hA : w1.heap.size = A at *
  generalize hB : w2.heap.size = B at *
  have hwA : w.heap.size ≤ A := by omega
  have hwB : w.heap.size ≤ B := by omega
  have h3 : Both w3 A B ⟨0, 65535#16, 0⟩ := ⟨a3, b3, T, by omega, by omega, by omega⟩
  clear hA hB ka kb a3 b3 T hz
  generalize (⟨0, 65535#16, 0⟩ : St) = sN at *
  refine (looks_c A B _ 0 _ h3).mono ?_
  rintro e w4 ⟨rfl, h4, k4⟩
  have k4 := k3.trans k4
  clear h3 k3
  go_wp2_with fail
  go_loopw [7] (fun v7 wr => ∃ (k : Nat) (s : St), k ≤ n ∧ v7 = .int .i64 k ∧ Both wr A B s ∧ Kept [] w wr) (fun v7 _ => (n - (intOf v7).toNat))
  case atStart => exact ⟨0, _, by omega, rfl, h4, k4⟩
  case round =>
    obtain ⟨k, s, hk, rfl, h5, k5⟩ := hrel
    clear h4 k4
    by_cases hlt : k < n
    · obtain ⟨z, blk, off, rfl, _, d0, d1, d2, d3⟩ := H1.out k hlt
      have c0 := old_cell k5 d0
      have c1 := old_cell k5 d1
      have c2 := old_cell k5 d2
      have c3 := old_cell k5 d3
      clear d0 d1 d2 d3
      go_wp2_with fail
      refine (plays_c A B z s _ h5).mono ?_
      clear c0 c1 c2 c3
      rintro e w6 ⟨rfl, h6, k6⟩
      have k6 := k5.step k6 (by intro x hx; right; simp at hx; rcases hx with e | e <;> rw [e] <;> assumption)
      clear h5 k5
      go_wp2
      go_roundw
      case rel => exact ⟨k + 1, _, by omega, by go_num, h6, k6⟩
      case measure => simp [intOf]; omega
    · clear h5
      go_wp2
      go_ret
      exact ⟨rfl, k5⟩

theorem law_any (W : World) (hT : Tab W) {H : Type} {enc : TypeId × Value → H} {r : Reach} {b0 : Nat} (v1 : Value) (d1 : DataW H) (p1 : List MemPlace)
    (hv1 : Value.okWide Tryd.prog W r b0 36 v1) (h1 : DataW.Trod enc Tryd.prog W 0 (fun _ => true) true 36 v1 d1 p1) :
    Calls Tryd.prog 6 #[v1] W fun e w' => e = .returned (.bool true) ∧ Kept [] W w' := by
  obtain ⟨z1, o1⟩ := open_ops hv1 h1
  obtain ⟨oa1, n1, cap1, rfl, m1, q1⟩ := o1.form
  unfold maxLen at m1
  by_cases h : 2147483647 < (n1 : Int)
  · exact long_walk W oa1 n1 cap1 h (by omega)
  · exact short_walk W hT oa1 n1 cap1 q1 (by omega)
end Go.Proofs.YtbnceohegekihaaDoor.chipPlays
