/-
  Contracts of package chip: table, does, Raise, Clear, Mask, Ack. No condition beyond the block's cells.
-/
import Derived.Test.YtligpkenodgfoaaGreatDoorHcA
import Derived.Deep.RegionWith
set_option linter.unusedSimpArgs false
set_option linter.unusedVariables false
namespace Go.Proofs.YtligpkenodgfoaaGreatDoor
open Go.RowKit

theorem run_insert_top {P : Program} {t k e : TypeId} {es : Array MapEntry} {clock : Nat} {s : ByteArray} (ht : P.underlying t = some (.map k e)) (hk : P.underlying k = some .string)
    (hn : Instr.findNow .string (.string s) es.toList 0 = some none) (W : World) (r : Nat) (v : Value) (hr : W.heap.size = r) :
    (Instr.mapUpdate t (.map (some r)) (.string s) v).run P (W.alloc (.map es clock)) = .ok () (W.alloc (.map (es.push ⟨.string s, v, clock⟩) (clock + 1))) := by
  subst hr
  have hb : (W.alloc (.map es clock)).heap[W.heap.size]? = some (.map es clock) := at_alloc_new _ _
  have h1 := MapKept.run_checkKey (w := W.alloc (.map es clock)) hk (k := .string s) trivial false 9999
  have h2 := MapKept.run_findKey (w := W.alloc (.map es clock)) hk hn
  have h3 := MapKept.run_setObj_map (P := P) (.map (es.push ⟨.string s, v, clock⟩) (clock + 1)) hb
  have e : (W.heap.push (.map es clock)).setIfInBounds W.heap.size (.map (es.push ⟨.string s, v, clock⟩) (clock + 1)) = W.heap.push (.map (es.push ⟨.string s, v, clock⟩) (clock + 1)) := by
    apply Array.ext'
    simp [List.set_append]
  have e2 : ({ W.alloc (.map es clock) with heap := (W.alloc (.map es clock)).heap.setIfInBounds W.heap.size (.map (es.push ⟨.string s, v, clock⟩) (clock + 1)) } : World) = W.alloc (.map (es.push ⟨.string s, v, clock⟩) (clock + 1)) := by
    show ({ W with heap := (W.heap.push (.map es clock)).setIfInBounds W.heap.size (.map (es.push ⟨.string s, v, clock⟩) (clock + 1)) } : World) = _
    rw [e]; rfl
  rw [e2] at h3
  simp [Instr.mapUpdate, run_underlying ht, MapKept.run_getObj_map hb, h1, h2, h3, Result.andThen]
theorem run_lookup_new {P : Program} {t k e : TypeId} {es : Array MapEntry} {clock : Nat} {s : ByteArray} {i : Nat} {v : Value} (ht : P.underlying t = some (.map k e)) (hk : P.underlying k = some .string)
    (hn : Instr.findNow .string (.string s) es.toList 0 = some (some (i, v))) (W : World) (r : Nat) (hr : W.heap[r]? = some (.map es clock)) :
    (Instr.lookup t (.map (some r)) (.string s) false).run P W = .ok v W := by
  have h1 := MapKept.run_checkKey (w := W) hk (k := .string s) trivial es.isEmpty 9999
  have h2 := MapKept.run_findKey (w := W) hk hn
  simp [Instr.lookup, run_underlying ht, MapKept.run_getObj_map hr, h1, h2, Result.andThen, Sem.run]

def sRaise : ByteArray := ⟨#[114, 97, 105, 115, 101]⟩
def sClear : ByteArray := ⟨#[99, 108, 101, 97, 114]⟩
def sMask : ByteArray := ⟨#[109, 97, 115, 107]⟩
def sUnmask : ByteArray := ⟨#[117, 110, 109, 97, 115, 107]⟩
abbrev fRaise : Nat := 159
abbrev fClear : Nat := 160
abbrev fMask : Nat := 161
abbrev fUnmask : Nat := 162
def closes (f : Nat) (box : Nat) : Value := .agg #[.func (.func f) #[] #[.pointer (some ⟨box, 0, none⟩)]]
def tableObj (box : Nat) : Obj := .map #[⟨.string sRaise, closes fRaise box, 0⟩, ⟨.string sClear, closes fClear box, 1⟩, ⟨.string sMask, closes fMask box, 2⟩, ⟨.string sUnmask, closes fUnmask box, 3⟩] 4

set_option maxHeartbeats 400000 in
theorem table_any (b : Nat) (w : World)  :
    Calls Tryz.prog 111 #[.pointer (some ⟨b, 0, none⟩)] w fun e w' => e = .returned (.map (some (w.heap.size + 1))) ∧ w' = (w.alloc (.cells #[.pointer (some ⟨b, 0, none⟩)] 34)).alloc (tableObj w.heap.size) := by
  have hmm := @run_makeMap Tryz.prog
  have ht : Tryz.prog.underlying 181 = some (.map 9 180) := Tryz.underlying181
  have i1 := fun W r v => run_insert_top (P := Tryz.prog) (s := sRaise) (clock := 0) (es := #[]) ht Tryz.underlying9 rfl W r v
  have i2 := fun v1 W r v => run_insert_top (P := Tryz.prog) (s := sClear) (clock := 1) (es := #[⟨.string sRaise, v1, 0⟩]) ht Tryz.underlying9 rfl W r v
  have i3 := fun v1 v2 W r v => run_insert_top (P := Tryz.prog) (s := sMask) (clock := 2) (es := #[⟨.string sRaise, v1, 0⟩, ⟨.string sClear, v2, 1⟩]) ht Tryz.underlying9 rfl W r v
  have i4 := fun v1 v2 v3 W r v => run_insert_top (P := Tryz.prog) (s := sUnmask) (clock := 3) (es := #[⟨.string sRaise, v1, 0⟩, ⟨.string sClear, v2, 1⟩, ⟨.string sMask, v3, 2⟩]) ht Tryz.underlying9 rfl W r v
  simp only [List.push_toArray, List.nil_append, List.cons_append, Nat.reduceAdd] at i1 i2 i3 i4
  simp only [tableObj, closes]
  simp only [sRaise, sClear, sMask, sUnmask] at i1 i2 i3 i4 ⊢
  clear ht
  go_enter Tryz.func111, Tryz.ntmps111
  go_wp2
  go_ret
  exact ⟨rfl, rfl⟩

set_option maxHeartbeats 400000 in
theorem raise_fn (b box : Nat) (x p m : BitVec 16) (n : BitVec 32) (w : World) (hx : w.cell? ⟨box, 0, none⟩ = some (.pointer (some ⟨b, 0, none⟩))) (h : ChipAt w b p m n) :
    Calls Tryz.prog fRaise #[.int .u16 (x.toNat : Int), .pointer (some ⟨box, 0, none⟩)] w (Ret (.tuple #[]) [b] w b (p ||| x) m n) := by
  obtain ⟨h0, h1, h2, f0, f1, f2⟩ := h.cells
  have H := Lib.hid h
  clear h
  go_enter Tryz.func159, Tryz.ntmps159
  go_wp2
  go_end0
  refine ⟨rfl, ?_, (Kept.refl _ _).setCell (.inl (by simp)) _⟩
  have := at_setCell (off := 0) H.out (.int .u16 (bits .or .u16 p.toNat x.toNat))
  unfold ChipAt
  refine this.trans ?_
  rw [or16 p x]; rfl

set_option maxHeartbeats 400000 in
theorem clear_fn (b box : Nat) (x p m : BitVec 16) (n : BitVec 32) (w : World) (hx : w.cell? ⟨box, 0, none⟩ = some (.pointer (some ⟨b, 0, none⟩))) (h : ChipAt w b p m n) :
    Calls Tryz.prog fClear #[.int .u16 (x.toNat : Int), .pointer (some ⟨box, 0, none⟩)] w (Ret (.tuple #[]) [b] w b (p &&& ~~~x) m n) := by
  obtain ⟨h0, h1, h2, f0, f1, f2⟩ := h.cells
  have H := Lib.hid h
  clear h
  go_enter Tryz.func160, Tryz.ntmps160
  go_wp2
  go_end0
  refine ⟨rfl, ?_, (Kept.refl _ _).setCell (.inl (by simp)) _⟩
  have := at_setCell (off := 0) H.out (.int .u16 (bits .andNot .u16 p.toNat x.toNat))
  unfold ChipAt
  refine this.trans ?_
  rw [andNot16 p x]; rfl

set_option maxHeartbeats 400000 in
theorem mask_fn (b box : Nat) (x p m : BitVec 16) (n : BitVec 32) (w : World) (hx : w.cell? ⟨box, 0, none⟩ = some (.pointer (some ⟨b, 0, none⟩))) (h : ChipAt w b p m n) :
    Calls Tryz.prog fMask #[.int .u16 (x.toNat : Int), .pointer (some ⟨box, 0, none⟩)] w (Ret (.tuple #[]) [b] w b p (m ||| x) n) := by
  obtain ⟨h0, h1, h2, f0, f1, f2⟩ := h.cells
  have H := Lib.hid h
  clear h
  go_enter Tryz.func161, Tryz.ntmps161
  go_wp2
  go_end0
  refine ⟨rfl, ?_, (Kept.refl _ _).setCell (.inl (by simp)) _⟩
  have := at_setCell (off := 1) H.out (.int .u16 (bits .or .u16 m.toNat x.toNat))
  unfold ChipAt
  refine this.trans ?_
  rw [or16 m x]; rfl

set_option maxHeartbeats 400000 in
theorem unmask_fn (b box : Nat) (x p m : BitVec 16) (n : BitVec 32) (w : World) (hx : w.cell? ⟨box, 0, none⟩ = some (.pointer (some ⟨b, 0, none⟩))) (h : ChipAt w b p m n) :
    Calls Tryz.prog fUnmask #[.int .u16 (x.toNat : Int), .pointer (some ⟨box, 0, none⟩)] w (Ret (.tuple #[]) [b] w b p (m &&& ~~~x) n) := by
  obtain ⟨h0, h1, h2, f0, f1, f2⟩ := h.cells
  have H := Lib.hid h
  clear h
  go_enter Tryz.func162, Tryz.ntmps162
  go_wp2
  go_end0
  refine ⟨rfl, ?_, (Kept.refl _ _).setCell (.inl (by simp)) _⟩
  have := at_setCell (off := 1) H.out (.int .u16 (bits .andNot .u16 m.toNat x.toNat))
  unfold ChipAt
  refine this.trans ?_
  rw [andNot16 m x]; rfl


theorem there_c (line : Int) (w : World) :
    Calls Tryz.prog 62 #[.int .i64 line] w fun e w' => e = .returned (.bool (decide (0 ≤ line ∧ line < 16))) ∧ w = w' := by
  by_cases h1 : 0 ≤ line
  · by_cases h2 : line < 16
    · go_enter Tryz.func62, Tryz.ntmps62
      go_wp2
      go_ret
      exact ⟨by simp [h1, h2], rfl⟩
    · go_enter Tryz.func62, Tryz.ntmps62
      go_wp2
      go_ret
      exact ⟨by simp [h1, h2], rfl⟩
  · go_enter Tryz.func62, Tryz.ntmps62
    go_wp2
    go_ret
    exact ⟨by simp; omega, rfl⟩

def bit (line : Int) : BitVec 16 := if 0 ≤ line ∧ line < 16 then 1#16 <<< line.toNat else 0
def errOf (line : Int) : Int := if 0 ≤ line ∧ line < 16 then 0 else 30

theorem bit_shl (line : Int) (h0 : 0 ≤ line) (h1 : line < 16) : IntKind.u16.wrap (2 ^ line.toNat) = ((bit line).toNat : Int) := by
  have := shl16 1#16 line.toNat
  rw [bit, if_pos ⟨h0, h1⟩, ← this]
  simp

theorem field_fn (f : Nat) (x : Value) (W : World) : (Instr.field 180 (.agg #[.func (.func f) #[] #[x]]) 0).run Tryz.prog W = .ok (.func (.func f) #[] #[x]) W := by
  kernel_rfl

set_option maxHeartbeats 400000 in
theorem does_no (b : Nat) (s : ByteArray) (line : Int) (w : World) (hl : ¬ (0 ≤ line ∧ line < 16)) :
    Calls Tryz.prog 60 #[.pointer (some ⟨b, 0, none⟩), .string s, .int .i64 line] w fun e w' => e = .returned (.int .i64 30) ∧ w = w' := by
  have hd : decide (0 ≤ line ∧ line < 16) = false := by simpa using hl
  have ht := fun W => there_c line W
  rw [hd] at ht
  have HT := Lib.hid ht
  clear hd hl ht
  go_enter Tryz.func60, Tryz.ntmps60
  go_wp2_with (go_at_call 62; refine (HT.out _).mono ?_; rintro e w' ⟨rfl, rfl⟩)
  go_ret
  exact ⟨rfl, rfl⟩


set_option maxHeartbeats 1000000 in
theorem does_raise (b : Nat) (p m : BitVec 16) (n : BitVec 32) (line : Int) (w : World) (h0 : 0 ≤ line) (h1 : line < 16) (h : ChipAt w b p m n) :
    Calls Tryz.prog 60 #[.pointer (some ⟨b, 0, none⟩), .string sRaise, .int .i64 line] w (Ret (.int .i64 0) [b] w b (p ||| bit line) m n) := by
  have hd : decide (0 ≤ line ∧ line < 16) = true := by simp [h0, h1]
  have ht := fun W => there_c line W
  rw [hd] at ht
  have HT := Lib.hid ht
  have hb := size_of_at h
  have h2 : ChipAt (((w.alloc (.cells #[.pointer (some ⟨b, 0, none⟩)] 34)).alloc (tableObj w.heap.size)).drew) b p m n := at_alloc_old (at_alloc_old h)
  have hx : (((w.alloc (.cells #[.pointer (some ⟨b, 0, none⟩)] 34)).alloc (tableObj w.heap.size)).drew).cell? ⟨w.heap.size, 0, none⟩ = some (.pointer (some ⟨b, 0, none⟩)) :=
    cell_of_one (at_alloc_old (at_alloc_new w _))
  have hfn := raise_fn b w.heap.size (bit line) p m n _ hx h2
  rw [← bit_shl line h0 h1] at hfn
  have HF := Lib.hid hfn
  have hlk : (Instr.lookup 181 (.map (some (w.heap.size + 1))) (.string sRaise) false).run Tryz.prog (((w.alloc (.cells #[.pointer (some ⟨b, 0, none⟩)] 34)).alloc (tableObj w.heap.size)).drew) = .ok (.agg #[.func (.func fRaise) #[] #[.pointer (some ⟨w.heap.size, 0, none⟩)]]) _ :=
    run_lookup_new (i := 0) Tryz.underlying181 Tryz.underlying9 rfl _ _ (by have := at_alloc_new (w.alloc (.cells #[.pointer (some ⟨b, 0, none⟩)] 34)) (tableObj w.heap.size); rw [show (w.alloc (.cells #[.pointer (some ⟨b, 0, none⟩)] 34)).heap.size = w.heap.size + 1 from by simp] at this; exact this)
  have hfd := fun f x W => field_fn f x W
  clear hd ht h hb h2 hx hfn
  go_enter Tryz.func60, Tryz.ntmps60
  go_wp2_with (go_at_call 62; refine (HT.out _).mono ?_; rintro e w' ⟨rfl, rfl⟩)
  go_region_with (first | (go_at_call 111; refine (table_any _ _).mono ?_; rintro e w' ⟨rfl, rfl⟩) | (go_at_call 159; refine HF.out.mono ?_; rintro e w' ⟨rfl, hc, hk⟩))
  go_wp2
  go_ret
  exact ⟨rfl, hc, (((Kept.refl _ _).alloc _).alloc _).drew.trans (by assumption)⟩

set_option maxHeartbeats 1000000 in
theorem does_clear (b : Nat) (p m : BitVec 16) (n : BitVec 32) (line : Int) (w : World) (h0 : 0 ≤ line) (h1 : line < 16) (h : ChipAt w b p m n) :
    Calls Tryz.prog 60 #[.pointer (some ⟨b, 0, none⟩), .string sClear, .int .i64 line] w (Ret (.int .i64 0) [b] w b (p &&& ~~~bit line) m n) := by
  have hd : decide (0 ≤ line ∧ line < 16) = true := by simp [h0, h1]
  have ht := fun W => there_c line W
  rw [hd] at ht
  have HT := Lib.hid ht
  have hb := size_of_at h
  have h2 : ChipAt (((w.alloc (.cells #[.pointer (some ⟨b, 0, none⟩)] 34)).alloc (tableObj w.heap.size)).drew) b p m n := at_alloc_old (at_alloc_old h)
  have hx : (((w.alloc (.cells #[.pointer (some ⟨b, 0, none⟩)] 34)).alloc (tableObj w.heap.size)).drew).cell? ⟨w.heap.size, 0, none⟩ = some (.pointer (some ⟨b, 0, none⟩)) :=
    cell_of_one (at_alloc_old (at_alloc_new w _))
  have hfn := clear_fn b w.heap.size (bit line) p m n _ hx h2
  rw [← bit_shl line h0 h1] at hfn
  have HF := Lib.hid hfn
  have hlk : (Instr.lookup 181 (.map (some (w.heap.size + 1))) (.string sClear) false).run Tryz.prog (((w.alloc (.cells #[.pointer (some ⟨b, 0, none⟩)] 34)).alloc (tableObj w.heap.size)).drew) = .ok (.agg #[.func (.func fClear) #[] #[.pointer (some ⟨w.heap.size, 0, none⟩)]]) _ :=
    run_lookup_new (i := 1) Tryz.underlying181 Tryz.underlying9 rfl _ _ (by have := at_alloc_new (w.alloc (.cells #[.pointer (some ⟨b, 0, none⟩)] 34)) (tableObj w.heap.size); rw [show (w.alloc (.cells #[.pointer (some ⟨b, 0, none⟩)] 34)).heap.size = w.heap.size + 1 from by simp] at this; exact this)
  have hfd := fun f x W => field_fn f x W
  clear hd ht h hb h2 hx hfn
  go_enter Tryz.func60, Tryz.ntmps60
  go_wp2_with (go_at_call 62; refine (HT.out _).mono ?_; rintro e w' ⟨rfl, rfl⟩)
  go_region_with (first | (go_at_call 111; refine (table_any _ _).mono ?_; rintro e w' ⟨rfl, rfl⟩) | (go_at_call 160; refine HF.out.mono ?_; rintro e w' ⟨rfl, hc, hk⟩))
  go_wp2
  go_ret
  exact ⟨rfl, hc, (((Kept.refl _ _).alloc _).alloc _).drew.trans (by assumption)⟩

set_option maxHeartbeats 1000000 in
theorem does_mask (b : Nat) (p m : BitVec 16) (n : BitVec 32) (line : Int) (w : World) (h0 : 0 ≤ line) (h1 : line < 16) (h : ChipAt w b p m n) :
    Calls Tryz.prog 60 #[.pointer (some ⟨b, 0, none⟩), .string sMask, .int .i64 line] w (Ret (.int .i64 0) [b] w b p (m ||| bit line) n) := by
  have hd : decide (0 ≤ line ∧ line < 16) = true := by simp [h0, h1]
  have ht := fun W => there_c line W
  rw [hd] at ht
  have HT := Lib.hid ht
  have hb := size_of_at h
  have h2 : ChipAt (((w.alloc (.cells #[.pointer (some ⟨b, 0, none⟩)] 34)).alloc (tableObj w.heap.size)).drew) b p m n := at_alloc_old (at_alloc_old h)
  have hx : (((w.alloc (.cells #[.pointer (some ⟨b, 0, none⟩)] 34)).alloc (tableObj w.heap.size)).drew).cell? ⟨w.heap.size, 0, none⟩ = some (.pointer (some ⟨b, 0, none⟩)) :=
    cell_of_one (at_alloc_old (at_alloc_new w _))
  have hfn := mask_fn b w.heap.size (bit line) p m n _ hx h2
  rw [← bit_shl line h0 h1] at hfn
  have HF := Lib.hid hfn
  have hlk : (Instr.lookup 181 (.map (some (w.heap.size + 1))) (.string sMask) false).run Tryz.prog (((w.alloc (.cells #[.pointer (some ⟨b, 0, none⟩)] 34)).alloc (tableObj w.heap.size)).drew) = .ok (.agg #[.func (.func fMask) #[] #[.pointer (some ⟨w.heap.size, 0, none⟩)]]) _ :=
    run_lookup_new (i := 2) Tryz.underlying181 Tryz.underlying9 rfl _ _ (by have := at_alloc_new (w.alloc (.cells #[.pointer (some ⟨b, 0, none⟩)] 34)) (tableObj w.heap.size); rw [show (w.alloc (.cells #[.pointer (some ⟨b, 0, none⟩)] 34)).heap.size = w.heap.size + 1 from by simp] at this; exact this)
  have hfd := fun f x W => field_fn f x W
  clear hd ht h hb h2 hx hfn
  go_enter Tryz.func60, Tryz.ntmps60
  go_wp2_with (go_at_call 62; refine (HT.out _).mono ?_; rintro e w' ⟨rfl, rfl⟩)
  go_region_with (first | (go_at_call 111; refine (table_any _ _).mono ?_; rintro e w' ⟨rfl, rfl⟩) | (go_at_call 161; refine HF.out.mono ?_; rintro e w' ⟨rfl, hc, hk⟩))
  go_wp2
  go_ret
  exact ⟨rfl, hc, (((Kept.refl _ _).alloc _).alloc _).drew.trans (by assumption)⟩

set_option maxHeartbeats 1000000 in
theorem does_unmask (b : Nat) (p m : BitVec 16) (n : BitVec 32) (line : Int) (w : World) (h0 : 0 ≤ line) (h1 : line < 16) (h : ChipAt w b p m n) :
    Calls Tryz.prog 60 #[.pointer (some ⟨b, 0, none⟩), .string sUnmask, .int .i64 line] w (Ret (.int .i64 0) [b] w b p (m &&& ~~~bit line) n) := by
  have hd : decide (0 ≤ line ∧ line < 16) = true := by simp [h0, h1]
  have ht := fun W => there_c line W
  rw [hd] at ht
  have HT := Lib.hid ht
  have hb := size_of_at h
  have h2 : ChipAt (((w.alloc (.cells #[.pointer (some ⟨b, 0, none⟩)] 34)).alloc (tableObj w.heap.size)).drew) b p m n := at_alloc_old (at_alloc_old h)
  have hx : (((w.alloc (.cells #[.pointer (some ⟨b, 0, none⟩)] 34)).alloc (tableObj w.heap.size)).drew).cell? ⟨w.heap.size, 0, none⟩ = some (.pointer (some ⟨b, 0, none⟩)) :=
    cell_of_one (at_alloc_old (at_alloc_new w _))
  have hfn := unmask_fn b w.heap.size (bit line) p m n _ hx h2
  rw [← bit_shl line h0 h1] at hfn
  have HF := Lib.hid hfn
  have hlk : (Instr.lookup 181 (.map (some (w.heap.size + 1))) (.string sUnmask) false).run Tryz.prog (((w.alloc (.cells #[.pointer (some ⟨b, 0, none⟩)] 34)).alloc (tableObj w.heap.size)).drew) = .ok (.agg #[.func (.func fUnmask) #[] #[.pointer (some ⟨w.heap.size, 0, none⟩)]]) _ :=
    run_lookup_new (i := 3) Tryz.underlying181 Tryz.underlying9 rfl _ _ (by have := at_alloc_new (w.alloc (.cells #[.pointer (some ⟨b, 0, none⟩)] 34)) (tableObj w.heap.size); rw [show (w.alloc (.cells #[.pointer (some ⟨b, 0, none⟩)] 34)).heap.size = w.heap.size + 1 from by simp] at this; exact this)
  have hfd := fun f x W => field_fn f x W
  clear hd ht h hb h2 hx hfn
  go_enter Tryz.func60, Tryz.ntmps60
  go_wp2_with (go_at_call 62; refine (HT.out _).mono ?_; rintro e w' ⟨rfl, rfl⟩)
  go_region_with (first | (go_at_call 111; refine (table_any _ _).mono ?_; rintro e w' ⟨rfl, rfl⟩) | (go_at_call 162; refine HF.out.mono ?_; rintro e w' ⟨rfl, hc, hk⟩))
  go_wp2
  go_ret
  exact ⟨rfl, hc, (((Kept.refl _ _).alloc _).alloc _).drew.trans (by assumption)⟩

theorem does_c (b : Nat) (p m : BitVec 16) (n : BitVec 32) (line : Int) (w : World) (h : ChipAt w b p m n) :
    (Calls Tryz.prog 60 #[.pointer (some ⟨b, 0, none⟩), .string sRaise, .int .i64 line] w (Ret (.int .i64 (errOf line)) [b] w b (p ||| bit line) m n)) ∧
    (Calls Tryz.prog 60 #[.pointer (some ⟨b, 0, none⟩), .string sClear, .int .i64 line] w (Ret (.int .i64 (errOf line)) [b] w b (p &&& ~~~bit line) m n)) ∧
    (Calls Tryz.prog 60 #[.pointer (some ⟨b, 0, none⟩), .string sMask, .int .i64 line] w (Ret (.int .i64 (errOf line)) [b] w b p (m ||| bit line) n)) ∧
    (Calls Tryz.prog 60 #[.pointer (some ⟨b, 0, none⟩), .string sUnmask, .int .i64 line] w (Ret (.int .i64 (errOf line)) [b] w b p (m &&& ~~~bit line) n)) := by
  by_cases hl : 0 ≤ line ∧ line < 16
  · have e : errOf line = 0 := if_pos hl
    rw [e]
    exact ⟨does_raise b p m n line w hl.1 hl.2 h, does_clear b p m n line w hl.1 hl.2 h, does_mask b p m n line w hl.1 hl.2 h, does_unmask b p m n line w hl.1 hl.2 h⟩
  · have e : errOf line = 30 := if_neg hl
    have e2 : bit line = 0 := if_neg hl
    rw [e, e2]
    have a1 : ∀ x : BitVec 16, x ||| 0 = x := by intro x; simp
    have a2 : ∀ x : BitVec 16, x &&& ~~~0 = x := by
      intro x
      rw [show (~~~(0 : BitVec 16)) = BitVec.allOnes 16 from by decide, BitVec.and_allOnes]
    simp only [a1, a2]
    have k := fun s => (does_no b s line w hl).mono (R' := Ret (.int .i64 30) [b] w b p m n) fun e w' ⟨he, hw⟩ => by subst hw; exact ⟨he, h, Kept.refl _ _⟩
    exact ⟨k _, k _, k _, k _⟩

set_option maxHeartbeats 400000 in
theorem raise_c (b : Nat) (p m : BitVec 16) (n : BitVec 32) (line : Int) (w : World) (h : ChipAt w b p m n) :
    Calls Tryz.prog 148 #[.pointer (some ⟨b, 0, none⟩), .int .i64 line] w (Ret (.int .i64 (errOf line)) [b] w b (p ||| bit line) m n) := by
  have hd := (does_c b p m n line w h).1
  unfold sRaise at hd
  have HD := Lib.hid hd
  clear hd h
  go_enter Tryz.func148, Tryz.ntmps148
  go_wp2_with (go_at_call 60; refine HD.out.mono ?_; rintro e w' ⟨rfl, hc, hk⟩)
  go_ret
  exact ⟨rfl, hc, by assumption⟩

set_option maxHeartbeats 400000 in
theorem mask_true_c (b : Nat) (p m : BitVec 16) (n : BitVec 32) (line : Int) (w : World) (h : ChipAt w b p m n) :
    Calls Tryz.prog 137 #[.pointer (some ⟨b, 0, none⟩), .int .i64 line, .bool true] w (Ret (.int .i64 (errOf line)) [b] w b p (m ||| bit line) n) := by
  have hd := (does_c b p m n line w h).2.2.1
  unfold sMask at hd
  have HD := Lib.hid hd
  clear hd h
  go_enter Tryz.func137, Tryz.ntmps137
  go_wp2_with (go_at_call 60; refine HD.out.mono ?_; rintro e w' ⟨rfl, hc, hk⟩)
  go_ret
  exact ⟨rfl, hc, by assumption⟩

set_option maxHeartbeats 400000 in
theorem mask_false_c (b : Nat) (p m : BitVec 16) (n : BitVec 32) (line : Int) (w : World) (h : ChipAt w b p m n) :
    Calls Tryz.prog 137 #[.pointer (some ⟨b, 0, none⟩), .int .i64 line, .bool false] w (Ret (.int .i64 (errOf line)) [b] w b p (m &&& ~~~bit line) n) := by
  have hd := (does_c b p m n line w h).2.2.2
  unfold sUnmask at hd
  have HD := Lib.hid hd
  clear hd h
  go_enter Tryz.func137, Tryz.ntmps137
  go_wp2_with (go_at_call 60; refine HD.out.mono ?_; rintro e w' ⟨rfl, hc, hk⟩)
  go_ret
  exact ⟨rfl, hc, by assumption⟩

set_option maxHeartbeats 400000 in
theorem ack_c (b : Nat) (p m : BitVec 16) (n : BitVec 32) (line : Int) (w : World) (h : ChipAt w b p m n) :
    Calls Tryz.prog 19 #[.pointer (some ⟨b, 0, none⟩), .int .i64 line] w (Ret (.int .i64 (errOf line)) [b] w b (p &&& ~~~bit line) (m &&& ~~~bit line) n) := by
  have hd := (does_c b p m n line w h).2.1
  have hd2 := fun W (h : ChipAt W b (p &&& ~~~bit line) m n) => (does_c b (p &&& ~~~bit line) m n line W h).2.2.2
  unfold sClear at hd
  unfold sUnmask at hd2
  have HD := Lib.hid hd
  have HD2 := Lib.hid hd2
  clear hd h hd2
  go_enter Tryz.func19, Tryz.ntmps19
  go_wp2_with fail
  refine HD.out.mono ?_
  rintro e w1 ⟨rfl, hc, hk⟩
  go_wp2_with fail
  refine (HD2.out _ hc).mono ?_
  rintro e w2 ⟨rfl, hc2, hk2⟩
  go_wp2
  go_ret
  exact ⟨rfl, hc2, hk.trans hk2⟩
end Go.Proofs.YtligpkenodgfoaaGreatDoor
