/-
  SchedPlays: its runs.
-/
import Derived.Test.YtkecfebodpkamaaGreatMT
set_option linter.unusedSimpArgs false
set_option linter.unusedVariables false
set_option maxRecDepth 100000
noncomputable section
namespace Go.Ev.X
open Go Go.Ev Go.Proofs
def qx7 : CutX := ⟨(.seqR (.ops [zV k2 (.b false)]) (.seqR (.ops [zC k8 8 [], zM k3 k8]) (.seqR (.ops [zC k9 9 [], zM k4 k9]) (.seqR (.seq (.ops [zM k10 k4, zO k11 (.bin .eql .ptr (.s k10) (.c .nil))]) (.cond k11 (.seq (.ops [zV k2 (.b false)]) .ret) .skip)) (.seqL (.seqR (.ops [zV k5 (.i .i64 0)]) (.block 0 .hole)) (.seq (.ops [zM k36 k3, zM k2 k36]) .ret)))))), (.seq (.seq (.ops [zM k12 k5, zM k13 k0, zO k14 (.lens (.s k13)), zB k15 .lss (.s k12) (.s k14), zM k16 k15, zG k17 k16 true (.mov (.s k5)), zG k18 k16 true (.bin .lss .num (.s k17) (zI 150)), zO k19 (.pick (.s k16) (.s k18) (.c (.b false)))]) (.cond k19 .skip (.exit 0))) (.seq (.block 1 (.seq (.ops [zM k22 k4, zM k23 k0, zM k24 k5, zO k25 (.ixs 3 (.s k23) (.s k24)), zO k26 (.ldn 3 (.s k25)), zC k27 19 [(.s k22), (.s k26)], zM k6 k27]) (.seq (.ops [zM k28 k4, zC k29 21 [(.s k28)], zM k7 k29]) (.seq (.ops [zM k30 k6, zO k31 (.not (.s k30)), zM k32 k31, zG k33 k32 false (.mov (.s k7)), zG k34 k32 false (.not (.s k33)), zO k35 (.pick (.s k32) (.c (.b true)) (.s k34))]) (.cond k35 (.seq (.ops [zV k2 (.b false)]) .ret) .skip))))) (.ops [zM k20 k5, zB k21 .add (.s k20) (zI 1), zM k5 k21]))), [.tmp k2]⟩
theorem qc7 : cutX (tyOf Tryz.prog) dr7 Tryz.f7 = some qx7 := by kernel_rfl
def frQ : List (Ky × V) := [(k0, .fs q1 0), (k3, .b true), (k4, .ptr q1379 0), (k5, .si .i64 (.v 2))]
def goQ (j : Nat) : Nat := runJ (stG frQ) qx7.x qx7.z (koB qx7.rs) ⟨callT (cxA j) 20, 7, 20000⟩ j ⟨fG 150 j, []⟩ (nxL (sgJ j))
theorem goQ_ok : allB (fun j => Nat.beq (goQ (j + 1)) 0) (rng 10) = true := by decide +kernel
def outQ (b : Bool) : Nat := runJ (stG frQ) qx7.x qx7.z (koB qx7.rs) ⟨callT (cxA 0) 20, 7, 20000⟩ 0 ⟨fO 150 b, []⟩ []
theorem outQ_ok : outQ true = 0 ∧ outQ false = 0 := by decide +kernel
def inA : CallT := asRow 9 q2 (.arr 37 8192 13 (.i .u64 0) abt0) (.oa 37 200 8192 13 .nil) (asRow 9 q1377 (.arr 37 8192 13 (.i .u64 0) abt0) (.oa 37 100 8192 13 .nil) (memoS gb (callAx call1)))
def hIn : H := ⟨q2, q2, (PT.e : PT O).set q1 (.row 0 3 (.v 1) (.v 2) [])⟩
theorem inQ_ok : initFr [.fs q1 0] (fun fr => zIn qx7.z ⟨inA, 7, 20000⟩ fr hIn ⟨[], []⟩ (fun fr h _ => nextK (stG frQ) (nxL sg0) fr h) (koB qx7.rs)) = 0 := by decide +kernel
end Go.Ev.X
end
