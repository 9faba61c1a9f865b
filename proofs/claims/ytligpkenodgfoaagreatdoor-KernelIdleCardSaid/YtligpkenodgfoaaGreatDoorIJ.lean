/-
  KernelIdle: the truths of its cases hold.
-/
import Derived.Test.YtligpkenodgfoaaGreatDoorIH
import Derived.Test.YtligpkenodgfoaaGreatDoorE4
set_option linter.unusedSimpArgs false
set_option linter.unusedVariables false
set_option maxRecDepth 100000
noncomputable section
namespace Go.Ev.X
open Go Go.Ev
variable {E : Env}
theorem tEq {i : Nat} {k : Int} (h : E.i i = k) : SB.den E (.cmp .eql (.v i) (.lit k)) = true := by
  show iEq (E.i i) k = true
  rw [iEq_eq]; exact decide_eq_true h
theorem tNe {i : Nat} {k : Int} (h : E.i i ≠ k) : SB.den E (.cmp .eql (.v i) (.lit k)) = false := by
  show iEq (E.i i) k = false
  rw [iEq_eq]; exact decide_eq_false h
theorem tGe {i : Nat} {k : Int} (h : k ≤ E.i i) : SB.den E (.cmp .geq (.v i) (.lit k)) = true := by
  show iLe k (E.i i) = true
  rw [iLe_eq]; exact decide_eq_true h
theorem tGn {i : Nat} {k : Int} (h : ¬ k ≤ E.i i) : SB.den E (.cmp .geq (.v i) (.lit k)) = false := by
  show iLe k (E.i i) = false
  rw [iLe_eq]; exact decide_eq_false h
theorem tLt {i : Nat} {k : Int} (h : E.i i < k) : SB.den E (.cmp .lss (.v i) (.lit k)) = true := by
  show iLt (E.i i) k = true
  rw [iLt_eq]; exact decide_eq_true h
theorem tLn {i : Nat} {k : Int} (h : ¬ E.i i < k) : SB.den E (.cmp .lss (.v i) (.lit k)) = false := by
  show iLt (E.i i) k = false
  rw [iLt_eq]; exact decide_eq_false h
theorem tMask (e : SE) : SB.den E (.cmp .eql (.op .andNot .u16 e (.lit 65535)) (.lit 0)) = true := by
  show iEq (fAndNot .u16 (e.den E) 65535) 0 = true
  rw [fAndNot_eq]
  have : (BitVec.ofInt IntKind.u16.bits (e.den E) &&& ~~~BitVec.ofInt IntKind.u16.bits 65535).toNat = 0 := by
    show (BitVec.ofInt 16 (e.den E) &&& ~~~BitVec.ofInt 16 65535).toNat = 0
    rw [show ~~~BitVec.ofInt 16 65535 = 0#16 from by decide]
    simp
  unfold bitI
  rw [this]
  decide
theorem fa_of {l : List (SB × Bool)} (h : ∀ c ∈ l, SB.den E c.1 = c.2) : FaOk E ⟨l, []⟩ := ⟨fun c b hm => h (c, b) hm, fun _ _ _ hm => by cases hm⟩
theorem faI1 (h0 : E.i 0 ≠ 1) (h1 : E.i 0 ≠ 2) (h2 : E.i 0 ≠ 3) (h3 : E.i 0 ≠ 4) (h4 : E.i 0 ≠ 5) (h5 : E.i 0 ≠ 6) (h6 : E.i 0 ≠ 7) : FaOk E ⟨fc1, []⟩ := by
  refine fa_of ?_
  unfold fc1
  simp only [List.mem_cons, List.not_mem_nil, or_false, forall_eq_or_imp, forall_eq]
  exact ⟨tNe h0, tNe h1, tNe h2, tNe h3, tNe h4, tNe h5, tNe h6⟩
theorem faI2 (h0 : E.i 0 = 1) : FaOk E ⟨fc2, []⟩ := by
  refine fa_of ?_
  unfold fc2
  simp only [List.mem_cons, List.not_mem_nil, or_false, forall_eq_or_imp, forall_eq]
  exact tEq h0
theorem faI3 (h0 : E.i 0 = 5) : FaOk E ⟨fc3, []⟩ := by
  refine fa_of ?_
  unfold fc3
  simp only [List.mem_cons, List.not_mem_nil, or_false, forall_eq_or_imp, forall_eq]
  exact tEq h0
theorem faI4 (h0 : E.i 0 = 2) (h1 : ¬ 0 ≤ E.i 1) : FaOk E ⟨fc4, []⟩ := by
  refine fa_of ?_
  unfold fc4
  simp only [List.mem_cons, List.not_mem_nil, or_false, forall_eq_or_imp, forall_eq]
  exact ⟨tEq h0, tGn h1⟩
theorem faI5 (h0 : E.i 0 = 2) (h1 : 0 ≤ E.i 1) (h2 : ¬ E.i 1 < 65536) : FaOk E ⟨fc5, []⟩ := by
  refine fa_of ?_
  unfold fc5
  simp only [List.mem_cons, List.not_mem_nil, or_false, forall_eq_or_imp, forall_eq]
  exact ⟨tEq h0, tGe h1, tLn h2⟩
theorem faI6 (h0 : E.i 0 = 2) (h1 : 0 ≤ E.i 1) (h2 : E.i 1 < 65536) (h3 : ¬ 0 ≤ E.i 2) : FaOk E ⟨fc6, []⟩ := by
  refine fa_of ?_
  unfold fc6
  simp only [List.mem_cons, List.not_mem_nil, or_false, forall_eq_or_imp, forall_eq]
  exact ⟨tEq h0, tGe h1, tLt h2, tGn h3⟩
theorem faI7 (h0 : E.i 0 = 2) (h1 : 0 ≤ E.i 1) (h2 : E.i 1 < 65536) (h3 : 0 ≤ E.i 2) (h4 : ¬ E.i 2 < 16) : FaOk E ⟨fc7, []⟩ := by
  refine fa_of ?_
  unfold fc7
  simp only [List.mem_cons, List.not_mem_nil, or_false, forall_eq_or_imp, forall_eq]
  exact ⟨tEq h0, tGe h1, tLt h2, tGe h3, tLn h4⟩
theorem faI8 (h0 : E.i 0 = 2) (h1 : 0 ≤ E.i 1) (h2 : E.i 1 < 65536) (h3 : 0 ≤ E.i 2) (h4 : E.i 2 < 16) : FaOk E ⟨fc8, []⟩ := by
  refine fa_of ?_
  unfold fc8
  simp only [List.mem_cons, List.not_mem_nil, or_false, forall_eq_or_imp, forall_eq]
  exact ⟨tEq h0, tGe h1, tLt h2, tGe h3, tLt h4⟩
theorem faI9 (h0 : E.i 0 = 3) (h1 : ¬ 0 ≤ E.i 1) : FaOk E ⟨fc9, []⟩ := by
  refine fa_of ?_
  unfold fc9
  simp only [List.mem_cons, List.not_mem_nil, or_false, forall_eq_or_imp, forall_eq]
  exact ⟨tEq h0, tGn h1⟩
theorem faI10 (h0 : E.i 0 = 3) (h1 : 0 ≤ E.i 1) (h2 : ¬ E.i 1 < 65536) : FaOk E ⟨fc10, []⟩ := by
  refine fa_of ?_
  unfold fc10
  simp only [List.mem_cons, List.not_mem_nil, or_false, forall_eq_or_imp, forall_eq]
  exact ⟨tEq h0, tGe h1, tLn h2⟩
theorem faI11 (h0 : E.i 0 = 3) (h1 : 0 ≤ E.i 1) (h2 : E.i 1 < 65536) (h3 : ¬ 0 ≤ E.i 2) : FaOk E ⟨fc11, []⟩ := by
  refine fa_of ?_
  unfold fc11
  simp only [List.mem_cons, List.not_mem_nil, or_false, forall_eq_or_imp, forall_eq]
  exact ⟨tEq h0, tGe h1, tLt h2, tGn h3⟩
theorem faI12 (h0 : E.i 0 = 3) (h1 : 0 ≤ E.i 1) (h2 : E.i 1 < 65536) (h3 : 0 ≤ E.i 2) (h4 : ¬ E.i 2 < 16) : FaOk E ⟨fc12, []⟩ := by
  refine fa_of ?_
  unfold fc12
  simp only [List.mem_cons, List.not_mem_nil, or_false, forall_eq_or_imp, forall_eq]
  exact ⟨tEq h0, tGe h1, tLt h2, tGe h3, tLn h4⟩
theorem faI13 (h0 : E.i 0 = 3) (h1 : 0 ≤ E.i 1) (h2 : E.i 1 < 65536) (h3 : 0 ≤ E.i 2) (h4 : E.i 2 < 16) : FaOk E ⟨fc13, []⟩ := by
  refine fa_of ?_
  unfold fc13
  simp only [List.mem_cons, List.not_mem_nil, or_false, forall_eq_or_imp, forall_eq]
  exact ⟨tEq h0, tGe h1, tLt h2, tGe h3, tLt h4⟩
theorem faI14 (h0 : E.i 0 = 4) (h1 : ¬ 0 ≤ E.i 1) : FaOk E ⟨fc14, []⟩ := by
  refine fa_of ?_
  unfold fc14
  simp only [List.mem_cons, List.not_mem_nil, or_false, forall_eq_or_imp, forall_eq]
  exact ⟨tEq h0, tGn h1⟩
theorem faI15 (h0 : E.i 0 = 4) (h1 : 0 ≤ E.i 1) (h2 : ¬ E.i 1 < 16) : FaOk E ⟨fc15, []⟩ := by
  refine fa_of ?_
  unfold fc15
  simp only [List.mem_cons, List.not_mem_nil, or_false, forall_eq_or_imp, forall_eq]
  exact ⟨tEq h0, tGe h1, tLn h2⟩
theorem faI16 (h0 : E.i 0 = 4) (h1 : 0 ≤ E.i 1) (h2 : E.i 1 < 16) : FaOk E ⟨fc16, []⟩ := by
  refine fa_of ?_
  unfold fc16
  simp only [List.mem_cons, List.not_mem_nil, or_false, forall_eq_or_imp, forall_eq]
  exact ⟨tEq h0, tGe h1, tLt h2, tMask _⟩
theorem faI17 (h0 : E.i 0 = 6) (h1 : ¬ 0 ≤ E.i 1) : FaOk E ⟨fc17, []⟩ := by
  refine fa_of ?_
  unfold fc17
  simp only [List.mem_cons, List.not_mem_nil, or_false, forall_eq_or_imp, forall_eq]
  exact ⟨tEq h0, tGn h1⟩
theorem faI18 (h0 : E.i 0 = 6) (h1 : 0 ≤ E.i 1) (h2 : ¬ E.i 1 < 8) : FaOk E ⟨fc18, []⟩ := by
  refine fa_of ?_
  unfold fc18
  simp only [List.mem_cons, List.not_mem_nil, or_false, forall_eq_or_imp, forall_eq]
  exact ⟨tEq h0, tGe h1, tLn h2⟩
theorem faI19 (h0 : E.i 0 = 6) (h1 : E.i 1 = 0) : FaOk E ⟨fc19, []⟩ := by
  refine fa_of ?_
  unfold fc19
  simp only [List.mem_cons, List.not_mem_nil, or_false, forall_eq_or_imp, forall_eq]
  exact ⟨tEq h0, tEq h1⟩
theorem faI20 (h0 : E.i 0 = 6) (h1 : E.i 1 = 1) : FaOk E ⟨fc20, []⟩ := by
  refine fa_of ?_
  unfold fc20
  simp only [List.mem_cons, List.not_mem_nil, or_false, forall_eq_or_imp, forall_eq]
  exact ⟨tEq h0, tEq h1⟩
theorem faI21 (h0 : E.i 0 = 6) (h1 : E.i 1 = 2) : FaOk E ⟨fc21, []⟩ := by
  refine fa_of ?_
  unfold fc21
  simp only [List.mem_cons, List.not_mem_nil, or_false, forall_eq_or_imp, forall_eq]
  exact ⟨tEq h0, tEq h1⟩
theorem faI22 (h0 : E.i 0 = 6) (h1 : E.i 1 = 3) : FaOk E ⟨fc22, []⟩ := by
  refine fa_of ?_
  unfold fc22
  simp only [List.mem_cons, List.not_mem_nil, or_false, forall_eq_or_imp, forall_eq]
  exact ⟨tEq h0, tEq h1⟩
theorem faI23 (h0 : E.i 0 = 6) (h1 : E.i 1 = 4) : FaOk E ⟨fc23, []⟩ := by
  refine fa_of ?_
  unfold fc23
  simp only [List.mem_cons, List.not_mem_nil, or_false, forall_eq_or_imp, forall_eq]
  exact ⟨tEq h0, tEq h1⟩
theorem faI24 (h0 : E.i 0 = 6) (h1 : E.i 1 = 5) : FaOk E ⟨fc24, []⟩ := by
  refine fa_of ?_
  unfold fc24
  simp only [List.mem_cons, List.not_mem_nil, or_false, forall_eq_or_imp, forall_eq]
  exact ⟨tEq h0, tEq h1⟩
theorem faI25 (h0 : E.i 0 = 6) (h1 : E.i 1 = 6) : FaOk E ⟨fc25, []⟩ := by
  refine fa_of ?_
  unfold fc25
  simp only [List.mem_cons, List.not_mem_nil, or_false, forall_eq_or_imp, forall_eq]
  exact ⟨tEq h0, tEq h1⟩
theorem faI26 (h0 : E.i 0 = 6) (h1 : E.i 1 = 7) : FaOk E ⟨fc26, []⟩ := by
  refine fa_of ?_
  unfold fc26
  simp only [List.mem_cons, List.not_mem_nil, or_false, forall_eq_or_imp, forall_eq]
  exact ⟨tEq h0, tEq h1⟩
theorem faI27 (h0 : E.i 0 = 7) (h1 : ¬ 0 ≤ E.i 2) : FaOk E ⟨fc27, []⟩ := by
  refine fa_of ?_
  unfold fc27
  simp only [List.mem_cons, List.not_mem_nil, or_false, forall_eq_or_imp, forall_eq]
  exact ⟨tEq h0, tGn h1⟩
theorem faI28 (h0 : E.i 0 = 7) (h1 : 0 ≤ E.i 2) (h2 : ¬ E.i 2 < 16) : FaOk E ⟨fc28, []⟩ := by
  refine fa_of ?_
  unfold fc28
  simp only [List.mem_cons, List.not_mem_nil, or_false, forall_eq_or_imp, forall_eq]
  exact ⟨tEq h0, tGe h1, tLn h2⟩
theorem faI29 (h0 : E.i 0 = 7) (h1 : 0 ≤ E.i 2) (h2 : E.i 2 < 16) : FaOk E ⟨fc29, []⟩ := by
  refine fa_of ?_
  unfold fc29
  simp only [List.mem_cons, List.not_mem_nil, or_false, forall_eq_or_imp, forall_eq]
  exact ⟨tEq h0, tGe h1, tLt h2⟩
end Go.Ev.X
end
