import Derived.Test.YtcinokgfjdifbaaGreatMQz
import Derived.Test.YtcinokgfjdifbaaGreatE5
import Derived.Shelf.RegionOpenPlain
import Derived.WalkKit
import Derived.Deep.LoopGhost
import Derived.Lib.Walk
import Derived.Lib.SliceRun
import Derived.Test.YtcinokgfjdifbaaGreatSD
set_option linter.unusedSimpArgs false
set_option linter.unusedVariables false
noncomputable section
namespace Go.Ev.X
open Go Go.RowKit Go.Lib Go.Proofs
theorem info39 : (Tryz.prog.info? 39).map (fun i => (i.zero, i.size, i.bytes)) = some (some (.int .u64 0), 1, 8) := by kernel_rfl
set_option maxHeartbeats 2000000 in
set_option maxRecDepth 100000 in
theorem clone_c (b off n c : Nat) (zs : List Int) (w : World) (hz : n <= zs.length) (hbig : n * 8 <= 140737488355328) (hc : ∀ j, j < zs.length -> w.cell? ⟨b, off + j, none⟩ = some (.int .u64 (zs.getD j 0))) :
  Calls Tryz.prog 80 #[.slice (some ⟨b, off, none⟩) n c] w fun e w' => ∃ v', e = .returned v' /\ w'.ownsRow w.heap.size 39 1 v' n ((zs.take n).map (Value.int .u64)) /\ v' ≠ .slice none 0 0 /\ Below w.heap.size w w' := by
 have t61 : Tryz.prog.underlying 61 = some (TypeDesc.slice 39) := by kernel_rfl
 have t4 : Tryz.prog.underlying 4 = some TypeDesc.bool := by kernel_rfl
 have mixed : Tryz.prog.follows .mixedOrders = true := by kernel_rfl
 obtain ⟨i0, hi, hz0, hz1, hz2⟩ := info_parts info39
 have q61 : ∀ (w : World) (a : Option Addr) (n c n' c' : Nat), (binOp .eql 61 (.slice a n c) (.slice none n' c')).run Tryz.prog w = .ok (.bool a.isNone) w := fun w a n c n' c' => Lib.run_eql_slice_nil w _ _ a n c n' c' t61
 have u61 : ∀ w, Sem.run Tryz.prog (underlying 61) w = .ok (TypeDesc.slice 39) w := run_underlying t61
 have A : Aside (∀ j, j < zs.length -> w.cell? ⟨b, off + j, none⟩ = some (.int .u64 (zs.getD j 0))) := hc
 clear hc
 have nt : Tryz.f80.ntmps = 8 := rfl
 go_enter Tryz.func80, nt
 go_wp2_with (at_builtin; refine wpList_append_own _ rfl _ _ 61 rfl w.heap.size 39 i0 (.int .u64 0) 1 8 t61 hi hz0 hz1 hz2 rfl (by decide) _ _ _ rfl (World.ownsRow_made w #[] 0 (Nat.le_refl _) (Nat.zero_le _) rfl) ⟨b, off, none⟩ n c ((zs.take n).map (Value.int .u64)) rfl ?qc1 ?qc2 ?qc3 ?qc4 ?qc5 ?qc6 ?_)
 case qc1 => simp; omega
 case qc2 =>
  intro j u hj
  have hjn : j < n /\ j < zs.length := by
   have := (List.getElem?_eq_some_iff.1 hj).1
   simp at this
   omega
  rw [Addr.add_lit]
  refine Lib.cell?_alloc_some _ ?_
  rw [A.out j hjn.2]
  have e : ((zs.take n).map (Value.int .u64))[j]? = some (Value.int .u64 (zs.getD j 0)) := by simp [List.getD, hjn.1, List.getElem?_eq_getElem hjn.2]
  rw [e] at hj
  exact hj
 case qc3 => intro u hu; obtain ⟨x, _, rfl⟩ := List.mem_map.1 hu; rfl
 case qc4 => unfold maxLen; omega
 case qc5 => omega
 case qc6 => simp
 intro v' w1 hown hgrow hnil
 go_wp2
 go_ret
 refine ⟨v', rfl, by simpa using hown, ?_, ?_⟩
 ·exact hnil
 ·exact ((Below.refl _ w).alloc (Nat.le_refl _) _).grown hgrow (by simp) (by intro k hk; simp [Value.ownBlock] at hk; omega)
end Go.Ev.X
end
set_option linter.unusedSimpArgs false
set_option linter.unusedVariables false
set_option maxRecDepth 100000
noncomputable section
namespace Go.Ev.X
open Go Go.Ev Go.Proofs
def zj6 : CutX := ⟨(.seqR (.ops [.op (some k4) none (.mov (.c (.b false)))]) (.seqR (.seq (.ops [.op (some k6) none (.mov (.s k0)), .op (some k7) none (.lens (.s k6)), .op (some k8) none (.mov (.s k1)), .op (some k9) none (.lens (.s k8)), .op (some k10) none (.bin .neq .num (.s k7) (.s k9))]) (.cond k10 (.seq (.ops [.op (some k4) none (.mov (.c (.b false)))]) .ret) .skip)) (.seqL (.seqR (.ops [.op (some k5) none (.mov (.c (.i .i64 0)))]) (.block 0 .hole)) (.seq (.ops [.op (some k4) none (.mov (.c (.b true)))]) .ret)))), (.seq (.seq (.ops [.op (some k11) none (.mov (.s k5)), .op (some k12) none (.mov (.s k0)), .op (some k13) none (.lens (.s k12)), .op (some k14) none (.bin .lss .num (.s k11) (.s k13))]) (.cond k14 .skip (.exit 0))) (.seq (.block 1 (.seq (.seq (.qops [.op (some k17) none (.mov (.s k0)), .op (some k18) none (.mov (.s k5)), .op (some k19) none (.ixs 1 (.s k17) (.s k18)), .op (some k20) none (.ld (.s k19)), .op (some k21) none (.mov (.s k1)), .op (some k22) none (.mov (.s k5)), .op (some k23) none (.ixs 1 (.s k21) (.s k22)), .op (some k24) none (.ld (.s k23))]) (.ops [.op (some k25) none (.bin .neq .num (.s k20) (.s k24))])) (.cond k25 (.seq (.ops [.op (some k4) none (.mov (.c (.b false)))]) .ret) .skip))) (.ops [.op (some k15) none (.mov (.s k5)), .op (some k16) none (.bin .add .num (.s k15) (.c (.i .i64 1))), .op (some k5) none (.mov (.s k16))]))), [.tmp k4]⟩
theorem qc44 : cutX (zP Tryz.prog) dr44 Tryz.f44 = some zj6 := by kernel_rfl
def fr44 : List (Ky × V) := [(k0, .fs .h 0), (k1, .fs (.o .h) 1), (k5, .si .i64 (.v 2))]
theorem go44 : zfn (ziq fr44) zj6.x zj6.z (koB zj6.rs) ⟨zbu, 44, 20000⟩ 0 fGoSa [(0, zoi), (1, zoi)] = 0 := by decide +kernel
theorem out44 : zfn (ziq fr44) zj6.x zj6.z (koB zj6.rs) ⟨zbu, 44, 20000⟩ 1 fOutSa [] = 0 := by decide +kernel
theorem in44 : zcd [.fs .h 0, .fs (.o .h) 1] (fun fr' => zIn zj6.z ⟨zbu, 44, 20000⟩ fr' (hSa false) fInSa (fun fr' h _ => zcX (ziq fr44) [(0, zln), (1, zln)] fr' h) (koB zj6.rs)) = 0 := by decide +kernel
theorem same44 {r0 r1 : Row} {D : Nat -> Int} (h0 : zf9 r0 D) (h1 : zf9 r1 D) (hl : r0.len = r1.len) (hlt : r0.len < 4611686018427387904) (e0 : r0.esz = 1) (e1 : r1.esz = 1) (hne : r0.b ≠ r1.b) {W : World}
  (w0 : W.heap[r0.b]? = some (.cells r0.cs r0.t r0.fz)) (w1 : W.heap[r1.b]? = some (.cells r1.cs r1.t r1.fz)) :
  Calls Tryz.prog 44 #[.slice (some ⟨r0.b, r0.off, none⟩) r0.len r0.cap, .slice (some ⟨r1.b, r1.off, none⟩) r1.len r1.cap] W fun e w' => e = .returned (.bool true) /\ RowKit.Below W.heap.size W w' :=
 same_c zaw zhk Tryz.func44 qc44 w44 go44 out44 in44 h0 h1 hl hlt e0 e1 hne w0 w1
end Go.Ev.X
end
