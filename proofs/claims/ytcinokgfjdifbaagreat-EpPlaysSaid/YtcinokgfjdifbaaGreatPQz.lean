import Derived.Test.YtcinokgfjdifbaaGreatAS
import Derived.Test.YtcinokgfjdifbaaGreatE6
set_option linter.unusedSimpArgs false
set_option linter.unusedVariables false
set_option maxRecDepth 100000
noncomputable section
namespace Go.Ev.X
open Go Go.Ev Go.Proofs
def qp : CutX := ⟨(.seqR (.ops [.op (some k2) none (.mov (.c (.b false)))]) (.seqR (.ops [.call (some k12) none (.c (.fn 6 [] [])) [], .op (some k3) none (.mov (.s k12))]) (.seqR (.ops [.call (some k13) none (.c (.fn 7 [] [])) [], .op (some k4) none (.mov (.s k13))]) (.seqR (.seq (.ops [.op (some k14) none (.mov (.s k4)), .op (some k15) none (.bin .eql .ptr (.s k14) (.c .nil))]) (.cond k15 (.seq (.ops [.op (some k2) none (.mov (.c (.b false)))]) .ret) .skip)) (.seqL (.seqR (.ops [.op (some k5) none (.mov (.c (.i .i64 0)))]) (.block 0 .hole)) (.seq (.ops [.op (some k88) none (.mov (.s k3)), .op (some k2) none (.mov (.s k88))]) .ret)))))), (.seq (.seq (.ops [.op (some k16) none (.mov (.s k5)), .op (some k17) none (.mov (.s k0)), .op (some k18) none (.lens (.s k17)), .op (some k19) none (.bin .lss .num (.s k16) (.s k18)), .op (some k20) none (.mov (.s k19)), .op (some k21) (some (k20, true)) (.mov (.s k5)), .op (some k22) (some (k20, true)) (.bin .lss .num (.s k21) (.c (.i .i64 100))), .op (some k23) none (.pick (.s k20) (.s k22) (.c (.b false)))]) (.cond k23 .skip (.exit 0))) (.seq (.block 1 (.seq (.ops [.op (some k26) none (.mov (.s k4)), .op (some k27) none (.mov (.s k0)), .op (some k28) none (.mov (.s k5)), .op (some k29) none (.ixs 6 (.s k27) (.s k28)), .op (some k30) none (.ldn 6 (.s k29)), .call (some k31) none (.c (.fn 8 [] [])) [.s k26, .s k30]]) (.seq (.ops [.op (some k32) none (.mov (.s k4)), .call (some k33) none (.c (.fn 17 [] [])) [.s k32], .op (some k6) none (.mov (.s k33))]) (.seq (.ops [.op (some k34) none (.mov (.s k0)), .op (some k35) none (.mov (.s k5)), .op (some k36) none (.ixs 6 (.s k34) (.s k35)), .op (some k37) none (.fad 2 (.s k36)), .op (some k38) none (.ld (.s k37)), .call (some k39) none (.c (.fn 9 [] [])) [.s k38], .op (some k7) none (.mov (.s k39))]) (.seq (.ops [.op (some k40) none (.mov (.s k4)), .op (some k41) none (.nilc (.s k40)), .op (some k42) none (.fad 0 (.s k41)), .op (some k43) none (.ld (.s k42)), .op (some k44) none (.mov (.s k7)), .call (some k45) none (.c (.fn 10 [] [])) [.s k43, .s k44], .op (some k8) none (.mov (.s k45))]) (.seq (.ops [.op (some k46) none (.mov (.s k4)), .op (some k47) none (.nilc (.s k46)), .op (some k48) none (.fad 1 (.s k47)), .op (some k49) none (.ld (.s k48)), .op (some k50) none (.mov (.s k7)), .call (some k51) none (.c (.fn 18 [] [])) [.s k49, .s k50], .op (some k9) none (.mov (.s k51))]) (.seq (.ops [.op (some k52) none (.mov (.s k8)), .op (some k53) none (.mov (.s k9)), .call (some k54) none (.c (.fn 12 [] [])) [.s k52, .s k53], .op (some k10) none (.mov (.s k54))]) (.seq (.ops [.op (some k55) none (.mov (.s k4)), .op (some k56) none (.nilc (.s k55)), .op (some k57) none (.fad 0 (.s k56)), .op (some k58) none (.ld (.s k57)), .op (some k59) none (.mov (.s k7)), .call (some k60) none (.c (.fn 19 [] [])) [.s k58, .s k59], .op (some k11) none (.mov (.s k60))]) (.seq (.ops [.op (some k61) none (.mov (.s k6)), .op (some k62) none (.not (.s k61)), .op (some k63) none (.mov (.s k62)), .op (some k64) (some (k63, false)) (.mov (.s k10)), .op (some k65) (some (k63, false)) (.not (.s k64)), .op (some k66) none (.pick (.s k63) (.c (.b true)) (.s k65)), .op (some k67) none (.mov (.s k66)), .op (some k68) (some (k67, false)) (.mov (.s k9)), .op (some k69) (some (k67, false)) (.lens (.s k68)), .op (some k70) (some (k67, false)) (.bin .eql .num (.s k69) (.c (.i .i64 0))), .op (some k71) (some (k67, false)) (.mov (.s k70)), .op (some k72) (some (k71, true)) (.mov (.s k11)), .op (some k73) (some (k71, true)) (.bin .neq .num (.s k72) (.c (.i .i64 0))), .op (some k74) (some (k67, false)) (.pick (.s k71) (.s k73) (.c (.b false))), .op (some k75) none (.pick (.s k67) (.c (.b true)) (.s k74)), .op (some k76) none (.mov (.s k75)), .op (some k77) (some (k76, false)) (.mov (.s k9)), .op (some k78) (some (k76, false)) (.lens (.s k77)), .op (some k79) (some (k76, false)) (.bin .gtr .num (.s k78) (.c (.i .i64 0))), .op (some k80) (some (k76, false)) (.mov (.s k79)), .op (some k81) (some (k80, true)) (.mov (.s k11)), .op (some k82) (some (k80, true)) (.mov (.s k9)), .op (some k83) (some (k80, true)) (.ixs 1 (.s k82) (.c (.i .i64 0))), .op (some k84) (some (k80, true)) (.ld (.s k83)), .op (some k85) (some (k80, true)) (.bin .neq .num (.s k81) (.s k84)), .op (some k86) (some (k76, false)) (.pick (.s k80) (.s k85) (.c (.b false))), .op (some k87) none (.pick (.s k76) (.c (.b true)) (.s k86))]) (.cond k87 (.seq (.ops [.op (some k2) none (.mov (.c (.b false)))]) .ret) .skip)))))))))) (.ops [.op (some k24) none (.mov (.s k5)), .op (some k25) none (.bin .add .num (.s k24) (.c (.i .i64 1))), .op (some k5) none (.mov (.s k25))]))), [.tmp k2]⟩
def frP : List (Ky × V) := [(k0, .fs q1 0), (k3, .b true), (k4, .ptr zlK 0), (k5, .si .i64 (.v 2))]
def tlP (n : Nat) : List Sh := zdf 15 Ev' 700 :: (lsS 13 701 n ++ [zdf 15 Ev' 700])
def tlR (n : Nat) : List Sh := zdf 81 Ev' 700 :: lsS 62 701 n
def fsT (n : Nat) : List (SB × Bool) := lsF0 701 n ++ ((.cmp .eql (.v 701) (.v 701), true) :: (.cmp .neq (.v 701) (.v 701), false) :: (rng n).map (fun i => (.cmp .neq (zjC 701 i) (zjC 701 i), false)))
def cxP (c n : Nat) : Cx := cxWt (cxW (cxA psA (shP c ++ tlP n) (shR c ++ tlR n)) 80 44 39 8192 [rpA c] [(rpA c, rrA c)])
def fP (c n : Nat) : List (SB × Bool) := (.cmp .lss (.v 2) (.v 1), true) :: (.cmp .lss (.v 2) (.lit 100), true) :: (fsA c ++ fsT n)
def goP (c n : Nat) : Nat := zfn (stA frP) qp.x qp.z (koB qp.rs) ⟨za1 (cxP c n) 20, 5, 20000⟩ 1 ⟨fP c n, []⟩ (nxA' (sgA [] (shP c ++ tlP n) (shR c ++ tlR n)))
def fO (n : Int) (b : Bool) : List (SB × Bool) := bif b then [(.cmp .lss (.v 2) (.v 1), true), (.cmp .lss (.v 2) (.lit n), false)] else [(.cmp .lss (.v 2) (.v 1), false)]
def outP (b : Bool) : Nat := zfn (stA frP) qp.x qp.z (koB qp.rs) ⟨za1 cx0 20, 5, 20000⟩ 0 ⟨fO 100 b, []⟩ []
def inP : Nat := zcd [.fs q1 0] (fun fr => zIn qp.z ⟨inA, 5, 20000⟩ fr hIn ⟨[], []⟩ (fun fr h _ => zcX (stA frP) (nxA' (sgA0 [])) fr h) (koB qp.rs))
theorem qcp : cutX (zP Tryz.prog) drN Tryz.f5 = some qp := by kernel_rfl
theorem zoy : outP true = 0 /\ outP false = 0 := by decide +kernel
theorem inP_ok : inP = 0 := by decide +kernel
end Go.Ev.X
end
set_option maxRecDepth 100000
namespace Go.Ev.X
open Go Go.Ev
theorem goP0 : zR (fun c => Nat.beq (goP c 0) 0) (rng 15) = true := by decide +kernel
end Go.Ev.X
set_option maxRecDepth 100000
namespace Go.Ev.X
open Go Go.Ev
theorem goP1 : zR (fun c => Nat.beq (goP c 1) 0) (rng 15) = true := by decide +kernel
end Go.Ev.X
set_option maxRecDepth 100000
namespace Go.Ev.X
open Go Go.Ev
theorem goP2 : zR (fun c => Nat.beq (goP c 2) 0) (rng 15) = true := by decide +kernel
end Go.Ev.X
set_option maxRecDepth 100000
namespace Go.Ev.X
open Go Go.Ev
theorem goP3 : zR (fun c => Nat.beq (goP c 3) 0) (rng 15) = true := by decide +kernel
end Go.Ev.X
set_option maxRecDepth 100000
namespace Go.Ev.X
open Go Go.Ev
theorem goP4 : zR (fun c => Nat.beq (goP c 4) 0) (rng 15) = true := by decide +kernel
end Go.Ev.X
