/-
  The chapter's examples (awake) are true. Condition: the table of math/bits holds what its text lays.
-/
import Derived.Test.YtbnceohegekihaaDoorChipB
import Derived.Test.YtbnceohegekihaaDoorChipC
set_option linter.unusedSimpArgs false
set_option linter.unusedVariables false
namespace Go.Proofs.YtbnceohegekihaaDoor
open Go.RowKit

set_option maxHeartbeats 2000000 in
theorem awake_c (w : World) (hT : Tab w) :
    Calls Tryd.prog 7 #[] w fun e w' => e = .returned (.bool true) ∧ Kept [] w w' := by
  have hz : 0 ≠ w.heap.size := Nat.ne_of_lt hT.size
  have hs : 0 ∉ [w.heap.size] := by simpa using hz
  have s1 := fun W b p m n h => (word_c b p m n W h)
  have e0 : errOf 3 = 0 := by decide
  have e1 : errOf 16 = 30 := by decide
  go_enter Tryd.func7, Tryd.ntmps7
  clear hz
  go_wp2_with fail
  refine (new_c _).mono ?_
  rintro e w1 ⟨rfl, c1, k1⟩
  have k1 := k1.nil (T := [w.heap.size])
  go_wp2_with fail
  have a := word_c _ _ _ _ _ c1
  rw [show ((word 0 65535#16 0).toNat : Int) = 4294901760 from by decide] at a
  refine a.mono ?_
  clear a
  rintro e w2 ⟨rfl, c2, k2⟩
  have k2 := k1.trans k2.nil
  clear c1 k1
  go_wp2_with fail
  have a := raise_c _ _ _ _ 3 _ c2
  rw [e0] at a
  refine a.mono ?_
  clear a
  rintro e w3 ⟨rfl, c3, k3⟩
  have k3 := k2.trans k3
  clear c2 k2
  go_wp2_with fail
  have a := next_c _ _ _ _ _ c3 (hT.kept k3 hs)
  rw [show nextOf (0 ||| bit 3) 65535#16 = .tuple #[.int .i64 0, .bool false] from by rfl] at a
  refine a.mono ?_
  clear a
  rintro e w4 ⟨rfl, c4, k4⟩
  have k4 := k3.trans k4.nil
  clear c3 k3
  go_wp2_with fail
  have a := mask_false_c _ _ _ _ 3 _ c4
  rw [e0] at a
  refine a.mono ?_
  clear a
  rintro e w5 ⟨rfl, c5, k5⟩
  have k5 := k4.trans k5
  clear c4 k4
  go_wp2_with fail
  have a := next_c _ _ _ _ _ c5 (hT.kept k5 hs)
  rw [show nextOf (0 ||| bit 3) (65535#16 &&& ~~~bit 3) = .tuple #[.int .i64 3, .bool true] from by rfl] at a
  refine a.mono ?_
  clear a
  rintro e w6 ⟨rfl, c6, k6⟩
  have k6 := k5.trans k6.nil
  clear c5 k5
  go_wp2_with fail
  have a := raise_c _ _ _ _ 16 _ c6
  rw [e1] at a
  refine a.mono ?_
  clear a
  rintro e w7 ⟨rfl, c7, k7⟩
  have k7 := k6.trans k7
  clear c6 k6
  go_wp2_with fail
  have a := restore_c _ _ _ _ 32#64 _ c7
  rw [show ((32#64).toNat : Int) = 32 from by decide] at a
  refine a.mono ?_
  clear a
  rintro e w8 ⟨rfl, c8, k8⟩
  have k8 := k7.trans k8
  clear c7 k7
  go_wp2_with fail
  refine (tick_c _ _ _ _ _ c8).mono ?_
  rintro e w9 ⟨rfl, c9, k9⟩
  have k9 := k8.trans k9
  clear c8 k8
  go_wp2_with fail
  have a := word_c _ _ _ _ _ c9
  rw [show ((word (BitVec.setWidth 16 32#64) (BitVec.setWidth 16 (32#64 >>> 16)) (BitVec.setWidth 32 (32#64 >>> 32) + 1)).toNat : Int) = 4294967328 from by decide] at a
  refine a.mono ?_
  clear a
  rintro e w10 ⟨rfl, c10, k10⟩
  have k10 := k9.trans k10.nil
  clear c9 k9 c10
  go_wp2
  go_ret
  exact ⟨rfl, k10.drop (by intro x hx; right; have e : x = w.heap.size := (by simpa using hx); exact Nat.le_of_eq e.symm)⟩
end Go.Proofs.YtbnceohegekihaaDoor
