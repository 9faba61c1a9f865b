/-
  Runs of the law.
-/
import Derived.Test.YtligpkenodgfoaaGreatDoorLS
set_option linter.unusedSimpArgs false
set_option linter.unusedVariables false
set_option maxRecDepth 100000
noncomputable section
namespace Go.Ev.X
open Go Go.Ev
def atL : CallT := pureS 10 [.si .i64 (.v 2), .i .i64 5] (.si .i64 (.v 12)) call1
def goF (z b : Bool) : Fa := ⟨fK b :: (bif z then [] else fB), []⟩
theorem l_go0 : runJ stL xiT ziT (koB rsT) ⟨atL, 5, 20000⟩ 0 (goF false true) [(0, sgG)] = 0 := by decide +kernel
theorem l_out0 : runJ stL xiT ziT (koB rsT) ⟨atL, 5, 20000⟩ 0 (goF false false) [] = 0 := by decide +kernel
theorem l_go1 : runJ stL xiT ziT (koB rsT) ⟨atL, 5, 20000⟩ 1 (goF true true) [(1, sgG)] = 0 := by decide +kernel
theorem l_out1 : runJ stL xiT ziT (koB rsT) ⟨atL, 5, 20000⟩ 1 (goF true false) [] = 0 := by decide +kernel
theorem l_go2 : runJ stL xiT ziT (koB rsT) ⟨atL, 5, 20000⟩ 2 (goF false true) [(2, sgG)] = 0 := by decide +kernel
theorem l_out2 : runJ stL xiT ziT (koB rsT) ⟨atL, 5, 20000⟩ 2 (goF false false) [] = 0 := by decide +kernel
theorem l_go3 : runJ stL xiT ziT (koB rsT) ⟨atL, 5, 20000⟩ 3 (goF true true) [(3, sgG)] = 0 := by decide +kernel
theorem l_out3 : runJ stL xiT ziT (koB rsT) ⟨atL, 5, 20000⟩ 3 (goF true false) [] = 0 := by decide +kernel
theorem l_go4 : runJ stL xiT ziT (koB rsT) ⟨atL, 5, 20000⟩ 4 (goF false true) [(4, sgG)] = 0 := by decide +kernel
theorem l_out4 : runJ stL xiT ziT (koB rsT) ⟨atL, 5, 20000⟩ 4 (goF false false) [] = 0 := by decide +kernel
theorem l_go5 : runJ stL xiT ziT (koB rsT) ⟨atL, 5, 20000⟩ 5 (goF true true) [(5, sgG)] = 0 := by decide +kernel
theorem l_out5 : runJ stL xiT ziT (koB rsT) ⟨atL, 5, 20000⟩ 5 (goF true false) [] = 0 := by decide +kernel
theorem l_go6 : runJ stL xiT ziT (koB rsT) ⟨atL, 5, 20000⟩ 6 (goF false true) [(6, sgG)] = 0 := by decide +kernel
theorem l_out6 : runJ stL xiT ziT (koB rsT) ⟨atL, 5, 20000⟩ 6 (goF false false) [] = 0 := by decide +kernel
theorem l_go7 : runJ stL xiT ziT (koB rsT) ⟨atL, 5, 20000⟩ 7 (goF true true) [(7, sgG)] = 0 := by decide +kernel
theorem l_out7 : runJ stL xiT ziT (koB rsT) ⟨atL, 5, 20000⟩ 7 (goF true false) [] = 0 := by decide +kernel
theorem l_go8 : runJ stL xiT ziT (koB rsT) ⟨atL, 5, 20000⟩ 8 (goF false true) [(8, sgG)] = 0 := by decide +kernel
theorem l_out8 : runJ stL xiT ziT (koB rsT) ⟨atL, 5, 20000⟩ 8 (goF false false) [] = 0 := by decide +kernel
theorem l_go9 : runJ stL xiT ziT (koB rsT) ⟨atL, 5, 20000⟩ 9 (goF true true) [(9, sgG)] = 0 := by decide +kernel
theorem l_out9 : runJ stL xiT ziT (koB rsT) ⟨atL, 5, 20000⟩ 9 (goF true false) [] = 0 := by decide +kernel
theorem l_go10 : runJ stL xiT ziT (koB rsT) ⟨atL, 5, 20000⟩ 10 (goF false true) [(10, sgG)] = 0 := by decide +kernel
theorem l_out10 : runJ stL xiT ziT (koB rsT) ⟨atL, 5, 20000⟩ 10 (goF false false) [] = 0 := by decide +kernel
theorem l_go11 : runJ stL xiT ziT (koB rsT) ⟨atL, 5, 20000⟩ 11 (goF true true) [(11, sgG)] = 0 := by decide +kernel
theorem l_out11 : runJ stL xiT ziT (koB rsT) ⟨atL, 5, 20000⟩ 11 (goF true false) [] = 0 := by decide +kernel
theorem l_go12 : runJ stL xiT ziT (koB rsT) ⟨atL, 5, 20000⟩ 12 (goF false true) [(12, sgG)] = 0 := by decide +kernel
theorem l_out12 : runJ stL xiT ziT (koB rsT) ⟨atL, 5, 20000⟩ 12 (goF false false) [] = 0 := by decide +kernel
theorem l_go13 : runJ stL xiT ziT (koB rsT) ⟨atL, 5, 20000⟩ 13 (goF true true) [(13, sgG)] = 0 := by decide +kernel
theorem l_out13 : runJ stL xiT ziT (koB rsT) ⟨atL, 5, 20000⟩ 13 (goF true false) [] = 0 := by decide +kernel
theorem l_go14 : runJ stL xiT ziT (koB rsT) ⟨atL, 5, 20000⟩ 14 (goF false true) [(14, sgG)] = 0 := by decide +kernel
theorem l_out14 : runJ stL xiT ziT (koB rsT) ⟨atL, 5, 20000⟩ 14 (goF false false) [] = 0 := by decide +kernel
theorem l_go15 : runJ stL xiT ziT (koB rsT) ⟨atL, 5, 20000⟩ 15 (goF true true) [(15, sgG)] = 0 := by decide +kernel
theorem l_out15 : runJ stL xiT ziT (koB rsT) ⟨atL, 5, 20000⟩ 15 (goF true false) [] = 0 := by decide +kernel
theorem l_go16 : runJ stL xiT ziT (koB rsT) ⟨atL, 5, 20000⟩ 16 (goF false true) [(16, sgG)] = 0 := by decide +kernel
theorem l_out16 : runJ stL xiT ziT (koB rsT) ⟨atL, 5, 20000⟩ 16 (goF false false) [] = 0 := by decide +kernel
theorem l_go17 : runJ stL xiT ziT (koB rsT) ⟨atL, 5, 20000⟩ 17 (goF true true) [(17, sgG)] = 0 := by decide +kernel
theorem l_out17 : runJ stL xiT ziT (koB rsT) ⟨atL, 5, 20000⟩ 17 (goF true false) [] = 0 := by decide +kernel
theorem l_go18 : runJ stL xiT ziT (koB rsT) ⟨atL, 5, 20000⟩ 18 (goF false true) [(18, sgG)] = 0 := by decide +kernel
theorem l_out18 : runJ stL xiT ziT (koB rsT) ⟨atL, 5, 20000⟩ 18 (goF false false) [] = 0 := by decide +kernel
theorem l_go19 : runJ stL xiT ziT (koB rsT) ⟨atL, 5, 20000⟩ 19 (goF true true) [(19, sgG)] = 0 := by decide +kernel
theorem l_out19 : runJ stL xiT ziT (koB rsT) ⟨atL, 5, 20000⟩ 19 (goF true false) [] = 0 := by decide +kernel
theorem l_go20 : runJ stL xiT ziT (koB rsT) ⟨atL, 5, 20000⟩ 20 (goF false true) [(20, sgG)] = 0 := by decide +kernel
theorem l_out20 : runJ stL xiT ziT (koB rsT) ⟨atL, 5, 20000⟩ 20 (goF false false) [] = 0 := by decide +kernel
theorem l_go21 : runJ stL xiT ziT (koB rsT) ⟨atL, 5, 20000⟩ 21 (goF true true) [(21, sgG)] = 0 := by decide +kernel
theorem l_out21 : runJ stL xiT ziT (koB rsT) ⟨atL, 5, 20000⟩ 21 (goF true false) [] = 0 := by decide +kernel
theorem l_go22 : runJ stL xiT ziT (koB rsT) ⟨atL, 5, 20000⟩ 22 (goF false true) [(22, sgG)] = 0 := by decide +kernel
theorem l_out22 : runJ stL xiT ziT (koB rsT) ⟨atL, 5, 20000⟩ 22 (goF false false) [] = 0 := by decide +kernel
theorem l_go23 : runJ stL xiT ziT (koB rsT) ⟨atL, 5, 20000⟩ 23 (goF true true) [(23, sgG)] = 0 := by decide +kernel
theorem l_out23 : runJ stL xiT ziT (koB rsT) ⟨atL, 5, 20000⟩ 23 (goF true false) [] = 0 := by decide +kernel
theorem l_go24 : runJ stL xiT ziT (koB rsT) ⟨atL, 5, 20000⟩ 24 (goF false true) [(24, sgG)] = 0 := by decide +kernel
theorem l_out24 : runJ stL xiT ziT (koB rsT) ⟨atL, 5, 20000⟩ 24 (goF false false) [] = 0 := by decide +kernel
theorem l_go25 : runJ stL xiT ziT (koB rsT) ⟨atL, 5, 20000⟩ 25 (goF true true) [(25, sgG)] = 0 := by decide +kernel
theorem l_out25 : runJ stL xiT ziT (koB rsT) ⟨atL, 5, 20000⟩ 25 (goF true false) [] = 0 := by decide +kernel
theorem l_go26 : runJ stL xiT ziT (koB rsT) ⟨atL, 5, 20000⟩ 26 (goF false true) [(26, sgG)] = 0 := by decide +kernel
theorem l_out26 : runJ stL xiT ziT (koB rsT) ⟨atL, 5, 20000⟩ 26 (goF false false) [] = 0 := by decide +kernel
theorem l_go27 : runJ stL xiT ziT (koB rsT) ⟨atL, 5, 20000⟩ 27 (goF true true) [(27, sgG)] = 0 := by decide +kernel
theorem l_out27 : runJ stL xiT ziT (koB rsT) ⟨atL, 5, 20000⟩ 27 (goF true false) [] = 0 := by decide +kernel
theorem l_go28 : runJ stL xiT ziT (koB rsT) ⟨atL, 5, 20000⟩ 28 (goF false true) [(28, sgG)] = 0 := by decide +kernel
theorem l_out28 : runJ stL xiT ziT (koB rsT) ⟨atL, 5, 20000⟩ 28 (goF false false) [] = 0 := by decide +kernel
theorem l_go29 : runJ stL xiT ziT (koB rsT) ⟨atL, 5, 20000⟩ 29 (goF true true) [(29, sgG)] = 0 := by decide +kernel
theorem l_out29 : runJ stL xiT ziT (koB rsT) ⟨atL, 5, 20000⟩ 29 (goF true false) [] = 0 := by decide +kernel
theorem l_go30 : runJ stL xiT ziT (koB rsT) ⟨atL, 5, 20000⟩ 30 (goF false true) [(30, sgG)] = 0 := by decide +kernel
theorem l_out30 : runJ stL xiT ziT (koB rsT) ⟨atL, 5, 20000⟩ 30 (goF false false) [] = 0 := by decide +kernel
theorem l_go31 : runJ stL xiT ziT (koB rsT) ⟨atL, 5, 20000⟩ 31 (goF true true) [(31, sgG)] = 0 := by decide +kernel
theorem l_out31 : runJ stL xiT ziT (koB rsT) ⟨atL, 5, 20000⟩ 31 (goF true false) [] = 0 := by decide +kernel
end Go.Ev.X
end
