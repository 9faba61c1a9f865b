/-
 slices.Clone of words.
-/
import Derived.Test.YtgaelfnoffejgaaMB
import Derived.Test.YtgaelfnoffejgaaE5
import Derived.Shelf.RegionOpenPlain
import Derived.WalkKit
import Derived.Deep.LoopGhost
import Derived.Lib.Walk
import Derived.Lib.SliceRun
set_option linter.unusedSimpArgs false
set_option linter.unusedVariables false
noncomputable section
namespace Go.Ev.X
open Go Go.RowKit Go.Lib Go.Proofs
theorem info33 : (Try.prog.info? 33).map (fun i => (i.zero, i.size, i.bytes)) = some (some (.int .u64 0), 1, 8) := by kernel_rfl
set_option maxHeartbeats 2000000 in
set_option maxRecDepth 100000 in
theorem clone_c (b off n c : Nat) (zs : List Int) (w : World) (hz : n ≤ zs.length) (hbig : n * 8 ≤ 140737488355328) (hc : ∀ j, j < zs.length → w.cell? ⟨b, off + j, none⟩ = some (.int .u64 (zs.getD j 0))) :
  Calls Try.prog 44 #[.slice (some ⟨b, off, none⟩) n c] w fun e w' => ∃ v', e = .returned v' ∧ w'.ownsRow w.heap.size 33 1 v' n ((zs.take n).map (Value.int .u64)) ∧ v' ≠ .slice none 0 0 ∧ Below w.heap.size w w' := by
 have t45 : Try.prog.underlying 45 = some (TypeDesc.slice 33) := by kernel_rfl
 have t4 : Try.prog.underlying 4 = some TypeDesc.bool := by kernel_rfl
 have mixed : Try.prog.follows .mixedOrders = true := by kernel_rfl
 obtain ⟨i0, hi, hz0, hz1, hz2⟩ := info_parts info33
 have q45 : ∀ (w : World) (a : Option Addr) (n c n' c' : Nat), (binOp .eql 45 (.slice a n c) (.slice none n' c')).run Try.prog w = .ok (.bool a.isNone) w := fun w a n c n' c' => Lib.run_eql_slice_nil w _ _ a n c n' c' t45
 have u45 : ∀ w, Sem.run Try.prog (underlying 45) w = .ok (TypeDesc.slice 33) w := run_underlying t45
 have A : Aside (∀ j, j < zs.length → w.cell? ⟨b, off + j, none⟩ = some (.int .u64 (zs.getD j 0))) := hc
 clear hc
 have nt : Try.f44.ntmps = 8 := rfl
 go_enter Try.func44, nt
 go_wp2_with (at_builtin; refine wpList_append_own _ rfl _ _ 45 rfl w.heap.size 33 i0 (.int .u64 0) 1 8 t45 hi hz0 hz1 hz2 rfl (by decide) _ _ _ rfl (World.ownsRow_made w #[] 0 (Nat.le_refl _) (Nat.zero_le _) rfl) ⟨b, off, none⟩ n c ((zs.take n).map (Value.int .u64)) rfl ?qc1 ?qc2 ?qc3 ?qc4 ?qc5 ?qc6 ?_)
 case qc1 => simp; omega
 case qc2 =>
  intro j u hj
  have hjn : j < n ∧ j < zs.length := by
   have := (List.getElem?_eq_some_iff.1 hj).1
   simp at this
   omega
  rw [Addr.add_lit]
  refine Lib.cell?_alloc_some _ ?_
  rw [A.out j hjn.2]
  have e : ((zs.take n).map (Value.int .u64))[j]? = some (Value.int .u64 (zs.getD j 0)) := by simp [List.getD, hjn.1, List.getElem?_eq_getElem hjn.2]
  rw [e] at hj
  exact hj
 case qc3 => intro u hu; obtain ⟨x, _, rfl⟩ := List.mem_map.1 hu; rfl
 case qc4 => unfold maxLen; omega
 case qc5 => omega
 case qc6 => simp
 intro v' w1 hown hgrow hnil
 go_wp2
 go_ret
 refine ⟨v', rfl, by simpa using hown, ?_, ?_⟩
 ·exact hnil
 ·exact ((Below.refl _ w).alloc (Nat.le_refl _) _).grown hgrow (by simp) (by intro k hk; simp [Value.ownBlock] at hk; omega)
end Go.Ev.X
end
