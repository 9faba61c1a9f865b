/-
 slices.Clone of words.
-/
import Derived.Test.YtkecfebodpkamaaGreatMB
import Derived.Test.YtkecfebodpkamaaGreatE5
import Derived.Shelf.RegionOpenPlain
import Derived.WalkKit
import Derived.Deep.LoopGhost
import Derived.Lib.Walk
import Derived.Lib.SliceRun
import Derived.Test.YtkecfebodpkamaaGreatSD
set_option linter.unusedSimpArgs false
set_option linter.unusedVariables false
noncomputable section
namespace Go.Ev.X
open Go Go.RowKit Go.Lib Go.Proofs
theorem info37 : (Tryz.prog.info? 37).map (fun i => (i.zero, i.size, i.bytes)) = some (some (.int .u64 0), 1, 8) := by kernel_rfl
set_option maxHeartbeats 2000000 in
set_option maxRecDepth 100000 in
theorem clone_c (b off n c : Nat) (zs : List Int) (w : World) (hz : n ≤ zs.length) (hbig : n * 8 ≤ 140737488355328) (hc : ∀ j, j < zs.length → w.cell? ⟨b, off + j, none⟩ = some (.int .u64 (zs.getD j 0))) :
  Calls Tryz.prog 81 #[.slice (some ⟨b, off, none⟩) n c] w fun e w' => ∃ v', e = .returned v' ∧ w'.ownsRow w.heap.size 37 1 v' n ((zs.take n).map (Value.int .u64)) ∧ v' ≠ .slice none 0 0 ∧ Below w.heap.size w w' := by
 have t59 : Tryz.prog.underlying 59 = some (TypeDesc.slice 37) := by kernel_rfl
 have t4 : Tryz.prog.underlying 4 = some TypeDesc.bool := by kernel_rfl
 have mixed : Tryz.prog.follows .mixedOrders = true := by kernel_rfl
 obtain ⟨i0, hi, hz0, hz1, hz2⟩ := info_parts info37
 have q59 : ∀ (w : World) (a : Option Addr) (n c n' c' : Nat), (binOp .eql 59 (.slice a n c) (.slice none n' c')).run Tryz.prog w = .ok (.bool a.isNone) w := fun w a n c n' c' => Lib.run_eql_slice_nil w _ _ a n c n' c' t59
 have u59 : ∀ w, Sem.run Tryz.prog (underlying 59) w = .ok (TypeDesc.slice 37) w := run_underlying t59
 have A : Aside (∀ j, j < zs.length → w.cell? ⟨b, off + j, none⟩ = some (.int .u64 (zs.getD j 0))) := hc
 clear hc
 have nt : Tryz.f81.ntmps = 8 := rfl
 go_enter Tryz.func81, nt
 go_wp2_with (at_builtin; refine wpList_append_own _ rfl _ _ 59 rfl w.heap.size 37 i0 (.int .u64 0) 1 8 t59 hi hz0 hz1 hz2 rfl (by decide) _ _ _ rfl (World.ownsRow_made w #[] 0 (Nat.le_refl _) (Nat.zero_le _) rfl) ⟨b, off, none⟩ n c ((zs.take n).map (Value.int .u64)) rfl ?qc1 ?qc2 ?qc3 ?qc4 ?qc5 ?qc6 ?_)
 case qc1 => simp; omega
 case qc2 =>
  intro j u hj
  have hjn : j < n ∧ j < zs.length := by
   have := (List.getElem?_eq_some_iff.1 hj).1
   simp at this
   omega
  rw [Addr.add_lit]
  refine Lib.cell?_alloc_some _ ?_
  rw [A.out j hjn.2]
  have e : ((zs.take n).map (Value.int .u64))[j]? = some (Value.int .u64 (zs.getD j 0)) := by simp [List.getD, hjn.1, List.getElem?_eq_getElem hjn.2]
  rw [e] at hj
  exact hj
 case qc3 => intro u hu; obtain ⟨x, _, rfl⟩ := List.mem_map.1 hu; rfl
 case qc4 => unfold maxLen; omega
 case qc5 => omega
 case qc6 => simp
 intro v' w1 hown hgrow hnil
 go_wp2
 go_ret
 refine ⟨v', rfl, by simpa using hown, ?_, ?_⟩
 ·exact hnil
 ·exact ((Below.refl _ w).alloc (Nat.le_refl _) _).grown hgrow (by simp) (by intro k hk; simp [Value.ownBlock] at hk; omega)
end Go.Ev.X
end
/-
 Two slices of words that are alike.
-/
set_option linter.unusedSimpArgs false
set_option linter.unusedVariables false
set_option maxRecDepth 100000
noncomputable section
namespace Go.Ev.X
open Go Go.Ev Go.Proofs
def qx54 : CutX := ⟨(.seqR (.ops [zV k4 (.b false)]) (.seqR (.seq (.ops [zM k6 k0, zO k7 (.lens (.s k6)), zM k8 k1, zO k9 (.lens (.s k8)), zB k10 .neq (.s k7) (.s k9)]) (.cond k10 (.seq (.ops [zV k4 (.b false)]) .ret) .skip)) (.seqL (.seqR (.ops [zV k5 (.i .i64 0)]) (.block 0 .hole)) (.seq (.ops [zV k4 (.b true)]) .ret)))), (.seq (.seq (.ops [zM k11 k5, zM k12 k0, zO k13 (.lens (.s k12)), zB k14 .lss (.s k11) (.s k13)]) (.cond k14 .skip (.exit 0))) (.seq (.block 1 (.seq (.seq (.qops [zM k17 k0, zM k18 k5, zO k19 (.ixs 1 (.s k17) (.s k18)), zL k20 k19, zM k21 k1, zM k22 k5, zO k23 (.ixs 1 (.s k21) (.s k22)), zL k24 k23]) (.ops [zB k25 .neq (.s k20) (.s k24)])) (.cond k25 (.seq (.ops [zV k4 (.b false)]) .ret) .skip))) (.ops [zM k15 k5, zB k16 .add (.s k15) (zI 1), zM k5 k16]))), [.tmp k4]⟩
theorem qc54 : cutX (tyOf Tryz.prog) dr54 Tryz.f54 = some qx54 := by kernel_rfl
def fr54 : List (Ky × V) := [(k0, .fs .h 0), (k1, .fs (.o .h) 1), (k5, .si .i64 (.v 2))]
theorem go54 : runJ (gsSa fr54) qx54.x qx54.z (koB qx54.rs) ⟨noCall, 54, 20000⟩ 0 fGoSa [(0, sgGSa), (1, sgGSa)] = 0 := by decide +kernel
theorem out54 : runJ (gsSa fr54) qx54.x qx54.z (koB qx54.rs) ⟨noCall, 54, 20000⟩ 1 fOutSa [] = 0 := by decide +kernel
theorem in54 : initFr [.fs .h 0, .fs (.o .h) 1] (fun fr' => zIn qx54.z ⟨noCall, 54, 20000⟩ fr' (hSa false) fInSa (fun fr' h _ => nextK (gsSa fr54) [(0, sgISa), (1, sgISa)] fr' h) (koB qx54.rs)) = 0 := by decide +kernel
theorem same54 {r0 r1 : Row} {D : Nat → Int} (h0 : RowW r0 D) (h1 : RowW r1 D) (hl : r0.len = r1.len) (hlt : r0.len < 4611686018427387904) (e0 : r0.esz = 1) (e1 : r1.esz = 1) (hne : r0.b ≠ r1.b) {W : World}
  (w0 : W.heap[r0.b]? = some (.cells r0.cs r0.t r0.fz)) (w1 : W.heap[r1.b]? = some (.cells r1.cs r1.t r1.fz)) :
  Calls Tryz.prog 54 #[.slice (some ⟨r0.b, r0.off, none⟩) r0.len r0.cap, .slice (some ⟨r1.b, r1.off, none⟩) r1.len r1.cap] W fun e w' => e = .returned (.bool true) ∧ RowKit.Below W.heap.size W w' :=
 same_c tyOk_tyOf mixedX Tryz.func54 qc54 w54 go54 out54 in54 h0 h1 hl hlt e0 e1 hne w0 w1
end Go.Ev.X
end
