/-
  NARROWER THAN 'FOR EVERY INPUT', by the rows' own cells (each row's printed sentence says how): TopPages: laid · TopWords: laid · TopCalls: laid · TopFaults: laid · TopUndo: laid · TopHandOut: laid.
  DERIVED. THE GIVEN ROWS OF THIS SEAT. 6 by the template 'for every input the law returns true; each argument reads behind the call as it read before'; 0 by the template 'total and deterministic' (their statements: YtcohamkngfehlaaGreatDoorTotals.lean).
  GIVEN WITH THE SEED: the statements are not yours to turn. If you find one false, say at which input.
  Laid BY PROGRAM, IN A SANDBOX (cutbox-rows.mjs): the forced cells as the released guide's own fill.sh prints them over the translation 3f1e821243038ec5… (all of the seat's roots in one cut). By AI agents, Wed Nov 11 2026. No macro, syntax, notation, axiom, sorry.
-/
import Derived.Test.YtcohamkngfehlaaGreatDoorChecked
import GoSem.Claim
import GoSem.ClaimJoined
import GoSem.ClaimMapViews
import Derived.JoinedTies
import Derived.KernelRfl
namespace Go.Proofs.YtcohamkngfehlaaGreatDoor
/- THE CELL 'sum', in the pinned program and in every row, IS THE sha256 OF THE DUMP (.gsa) THAT YtcohamkngfehlaaGreatDoorProg.lean LOADS. Nothing in Lean hashes anything: it is a label: what it is worth is what the hold of that sum in a sandbox is worth. -/
noncomputable def Tryz.pinned : Pinned := { name := "ytcohamkngfehlaagreatdoor", sum := "3f1e821243038ec585ed80c41c3c8fb083163538baf6cb0607034a22d71c8308", checked := Tryz.checked }
namespace Rows
def none {H : Type} : Left H := { results := [], args := [] }

/- WHAT THE LISTED PACKAGE-LEVEL VARIABLES READ AS WHEN THE CALL BEGINS. Each datum BY PROGRAM (the guide's laid-datum.mjs) off the statement by which the dump's own 'gosem.cut.vars' lays the variable. In a bare row this is a premise. The card (YtcohamkngfehlaaGreatDoorCards.lean) ties it to the program's text. -/
def laid_math_bits_deBruijn32tab {H : Type} : DataW H := .agg [.lit (.int .u8 0), .lit (.int .u8 1), .lit (.int .u8 28), .lit (.int .u8 2), .lit (.int .u8 29), .lit (.int .u8 14), .lit (.int .u8 24), .lit (.int .u8 3), .lit (.int .u8 30), .lit (.int .u8 22), .lit (.int .u8 20), .lit (.int .u8 15), .lit (.int .u8 25), .lit (.int .u8 17), .lit (.int .u8 4), .lit (.int .u8 8), .lit (.int .u8 31), .lit (.int .u8 27), .lit (.int .u8 13), .lit (.int .u8 23), .lit (.int .u8 21), .lit (.int .u8 19), .lit (.int .u8 16), .lit (.int .u8 7), .lit (.int .u8 26), .lit (.int .u8 12), .lit (.int .u8 18), .lit (.int .u8 6), .lit (.int .u8 11), .lit (.int .u8 5), .lit (.int .u8 10), .lit (.int .u8 9)]

/-- 'citadeltop.TopPages': WHATEVER THE INPUT: true; the input reads as it did. -/
def topPagesSpec : ChangeSpec := { name := "topPages", fn := fun _ => fun
  | [d1, d2, d3] => { results := [.lit (.bool true)], args := [d1, d2, d3] }
  | _ => none }
def topPagesRow : OpenClaim := { program := "ytcohamkngfehlaagreatdoor", sum := "3f1e821243038ec585ed80c41c3c8fb083163538baf6cb0607034a22d71c8308", func := "citadel/citadeltop.TopPages", spec := "topPages", unfollowed := true, recurses := true, named := ["math/bits.deBruijn32tab"], plainKeys := false, apart := false, laid := [("math/bits.deBruijn32tab", laid_math_bits_deBruijn32tab)] }
def TopPagesSaid : Prop := topPagesRow.holds Tryz.pinned (OpenSpec.ofChange topPagesSpec)

/-- ITS FALSE NEIGHBOUR: 'it returns false'. Refute it at one input. -/
def topPagesWrong : ChangeSpec := { name := "topPages", fn := fun _ => fun
  | [d1, d2, d3] => { results := [.lit (.bool false)], args := [d1, d2, d3] }
  | _ => none }
def TopPagesWrongFalsely : Prop := topPagesRow.holds Tryz.pinned (OpenSpec.ofChange topPagesWrong)

/-- 'citadeltop.TopWords': WHATEVER THE INPUT: true; the input reads as it did. -/
def topWordsSpec : ChangeSpec := { name := "topWords", fn := fun _ => fun
  | [d1, d2] => { results := [.lit (.bool true)], args := [d1, d2] }
  | _ => none }
def topWordsRow : OpenClaim := { program := "ytcohamkngfehlaagreatdoor", sum := "3f1e821243038ec585ed80c41c3c8fb083163538baf6cb0607034a22d71c8308", func := "citadel/citadeltop.TopWords", spec := "topWords", unfollowed := true, recurses := true, named := ["math/bits.deBruijn32tab"], plainKeys := false, apart := false, laid := [("math/bits.deBruijn32tab", laid_math_bits_deBruijn32tab)] }
def TopWordsSaid : Prop := topWordsRow.holds Tryz.pinned (OpenSpec.ofChange topWordsSpec)

/-- ITS FALSE NEIGHBOUR: 'it returns false'. Refute it at one input. -/
def topWordsWrong : ChangeSpec := { name := "topWords", fn := fun _ => fun
  | [d1, d2] => { results := [.lit (.bool false)], args := [d1, d2] }
  | _ => none }
def TopWordsWrongFalsely : Prop := topWordsRow.holds Tryz.pinned (OpenSpec.ofChange topWordsWrong)

/-- 'citadeltop.TopCalls': WHATEVER THE INPUT: true; the input reads as it did. -/
def topCallsSpec : ChangeSpec := { name := "topCalls", fn := fun _ => fun
  | [d] => { results := [.lit (.bool true)], args := [d] }
  | _ => none }
def topCallsRow : OpenClaim := { program := "ytcohamkngfehlaagreatdoor", sum := "3f1e821243038ec585ed80c41c3c8fb083163538baf6cb0607034a22d71c8308", func := "citadel/citadeltop.TopCalls", spec := "topCalls", unfollowed := true, recurses := true, named := ["math/bits.deBruijn32tab"], plainKeys := false, apart := false, laid := [("math/bits.deBruijn32tab", laid_math_bits_deBruijn32tab)] }
def TopCallsSaid : Prop := topCallsRow.holds Tryz.pinned (OpenSpec.ofChange topCallsSpec)

/-- ITS FALSE NEIGHBOUR: 'it returns false'. Refute it at one input. -/
def topCallsWrong : ChangeSpec := { name := "topCalls", fn := fun _ => fun
  | [d] => { results := [.lit (.bool false)], args := [d] }
  | _ => none }
def TopCallsWrongFalsely : Prop := topCallsRow.holds Tryz.pinned (OpenSpec.ofChange topCallsWrong)

/-- 'citadeltop.TopFaults': WHATEVER THE INPUT: true; the input reads as it did. -/
def topFaultsSpec : ChangeSpec := { name := "topFaults", fn := fun _ => fun
  | [d1, d2] => { results := [.lit (.bool true)], args := [d1, d2] }
  | _ => none }
def topFaultsRow : OpenClaim := { program := "ytcohamkngfehlaagreatdoor", sum := "3f1e821243038ec585ed80c41c3c8fb083163538baf6cb0607034a22d71c8308", func := "citadel/citadeltop.TopFaults", spec := "topFaults", unfollowed := true, recurses := true, named := ["math/bits.deBruijn32tab"], plainKeys := false, apart := false, laid := [("math/bits.deBruijn32tab", laid_math_bits_deBruijn32tab)] }
def TopFaultsSaid : Prop := topFaultsRow.holds Tryz.pinned (OpenSpec.ofChange topFaultsSpec)

/-- ITS FALSE NEIGHBOUR: 'it returns false'. Refute it at one input. -/
def topFaultsWrong : ChangeSpec := { name := "topFaults", fn := fun _ => fun
  | [d1, d2] => { results := [.lit (.bool false)], args := [d1, d2] }
  | _ => none }
def TopFaultsWrongFalsely : Prop := topFaultsRow.holds Tryz.pinned (OpenSpec.ofChange topFaultsWrong)

/-- 'citadeltop.TopUndo': WHATEVER THE INPUT: true; the input reads as it did. -/
def topUndoSpec : ChangeSpec := { name := "topUndo", fn := fun _ => fun
  | [d1, d2] => { results := [.lit (.bool true)], args := [d1, d2] }
  | _ => none }
def topUndoRow : OpenClaim := { program := "ytcohamkngfehlaagreatdoor", sum := "3f1e821243038ec585ed80c41c3c8fb083163538baf6cb0607034a22d71c8308", func := "citadel/citadeltop.TopUndo", spec := "topUndo", unfollowed := true, recurses := true, named := ["math/bits.deBruijn32tab"], plainKeys := false, apart := false, laid := [("math/bits.deBruijn32tab", laid_math_bits_deBruijn32tab)] }
def TopUndoSaid : Prop := topUndoRow.holds Tryz.pinned (OpenSpec.ofChange topUndoSpec)

/-- ITS FALSE NEIGHBOUR: 'it returns false'. Refute it at one input. -/
def topUndoWrong : ChangeSpec := { name := "topUndo", fn := fun _ => fun
  | [d1, d2] => { results := [.lit (.bool false)], args := [d1, d2] }
  | _ => none }
def TopUndoWrongFalsely : Prop := topUndoRow.holds Tryz.pinned (OpenSpec.ofChange topUndoWrong)

/-- 'citadeltop.TopHandOut': WHATEVER THE INPUT: true; the input reads as it did. -/
def topHandOutSpec : ChangeSpec := { name := "topHandOut", fn := fun _ => fun
  | [d1, d2] => { results := [.lit (.bool true)], args := [d1, d2] }
  | _ => none }
def topHandOutRow : OpenClaim := { program := "ytcohamkngfehlaagreatdoor", sum := "3f1e821243038ec585ed80c41c3c8fb083163538baf6cb0607034a22d71c8308", func := "citadel/citadeltop.TopHandOut", spec := "topHandOut", unfollowed := true, recurses := true, named := ["math/bits.deBruijn32tab"], plainKeys := false, apart := false, laid := [("math/bits.deBruijn32tab", laid_math_bits_deBruijn32tab)] }
def TopHandOutSaid : Prop := topHandOutRow.holds Tryz.pinned (OpenSpec.ofChange topHandOutSpec)

/-- ITS FALSE NEIGHBOUR: 'it returns false'. Refute it at one input. -/
def topHandOutWrong : ChangeSpec := { name := "topHandOut", fn := fun _ => fun
  | [d1, d2] => { results := [.lit (.bool false)], args := [d1, d2] }
  | _ => none }
def TopHandOutWrongFalsely : Prop := topHandOutRow.holds Tryz.pinned (OpenSpec.ofChange topHandOutWrong)

/- THE SECOND FORM. 'bulk': how many values and letters a reading holds, each counted each time it is reached (what is shared counts as often as it is met; a slice's spare places count too). A statement '..UptoSaid' is the law's where the arguments, and the package variables that the reading takes, are together of bulk at most 1048576: NARROWER than '..Said'. Prove '..Said' where nothing that the law and all that it calls make is longer than what came in: it says more and counts as full. Else prove '..UptoSaid'. A law counts once. -/
mutual
def uptoBulk {H : Type} : DataW H → Nat
  | .lit (.string bytes) => bytes.length + 1
  | .lit _ => 1
  | .nil => 1
  | .ptr d => uptoBulk d + 1
  | .slice elems spare => uptoBulkAll elems + uptoBulkAll spare + 1
  | .agg parts => uptoBulkAll parts + 1
  | .iface _ d => uptoBulk d + 1
  | .map entries => uptoBulkEntries entries + 1
  | .held _ => 1
def uptoBulkAll {H : Type} : List (DataW H) → Nat
  | [] => 0
  | d :: r => uptoBulk d + uptoBulkAll r
def uptoBulkEntries {H : Type} : List (Lit × DataW H) → Nat
  | [] => 0
  | x :: r => uptoBulkEntry x + uptoBulkEntries r
def uptoBulkEntry {H : Type} : Lit × DataW H → Nat
  | (.string bytes, d) => bytes.length + uptoBulk d + 1
  | (_, d) => uptoBulk d + 1
 end
def uptoSmall : (H : Type) → List (DataW H) → Bool := fun _ ds => decide (uptoBulkAll ds ≤ 1048576)
def OpenSpec.upto (s : _root_.Go.ChangeSpec) : _root_.Go.OpenSpec := { _root_.Go.OpenSpec.ofChange s with cond := some uptoSmall }

/-- 'citadeltop.TopPages', WHERE WHAT IT READS IS OF BULK AT MOST 1048576: true; the input reads as it did. -/
def topPagesUptoRow : OpenClaim := { program := "ytcohamkngfehlaagreatdoor", sum := "3f1e821243038ec585ed80c41c3c8fb083163538baf6cb0607034a22d71c8308", func := "citadel/citadeltop.TopPages", spec := "topPages", unfollowed := true, recurses := true, named := ["math/bits.deBruijn32tab"], plainKeys := false, apart := false, laid := [("math/bits.deBruijn32tab", laid_math_bits_deBruijn32tab)], narrowed := true }
def TopPagesUptoSaid : Prop := topPagesUptoRow.holds Tryz.pinned (OpenSpec.upto topPagesSpec)

/-- 'citadeltop.TopWords', WHERE WHAT IT READS IS OF BULK AT MOST 1048576: true; the input reads as it did. -/
def topWordsUptoRow : OpenClaim := { program := "ytcohamkngfehlaagreatdoor", sum := "3f1e821243038ec585ed80c41c3c8fb083163538baf6cb0607034a22d71c8308", func := "citadel/citadeltop.TopWords", spec := "topWords", unfollowed := true, recurses := true, named := ["math/bits.deBruijn32tab"], plainKeys := false, apart := false, laid := [("math/bits.deBruijn32tab", laid_math_bits_deBruijn32tab)], narrowed := true }
def TopWordsUptoSaid : Prop := topWordsUptoRow.holds Tryz.pinned (OpenSpec.upto topWordsSpec)

/-- 'citadeltop.TopCalls', WHERE WHAT IT READS IS OF BULK AT MOST 1048576: true; the input reads as it did. -/
def topCallsUptoRow : OpenClaim := { program := "ytcohamkngfehlaagreatdoor", sum := "3f1e821243038ec585ed80c41c3c8fb083163538baf6cb0607034a22d71c8308", func := "citadel/citadeltop.TopCalls", spec := "topCalls", unfollowed := true, recurses := true, named := ["math/bits.deBruijn32tab"], plainKeys := false, apart := false, laid := [("math/bits.deBruijn32tab", laid_math_bits_deBruijn32tab)], narrowed := true }
def TopCallsUptoSaid : Prop := topCallsUptoRow.holds Tryz.pinned (OpenSpec.upto topCallsSpec)

/-- 'citadeltop.TopFaults', WHERE WHAT IT READS IS OF BULK AT MOST 1048576: true; the input reads as it did. -/
def topFaultsUptoRow : OpenClaim := { program := "ytcohamkngfehlaagreatdoor", sum := "3f1e821243038ec585ed80c41c3c8fb083163538baf6cb0607034a22d71c8308", func := "citadel/citadeltop.TopFaults", spec := "topFaults", unfollowed := true, recurses := true, named := ["math/bits.deBruijn32tab"], plainKeys := false, apart := false, laid := [("math/bits.deBruijn32tab", laid_math_bits_deBruijn32tab)], narrowed := true }
def TopFaultsUptoSaid : Prop := topFaultsUptoRow.holds Tryz.pinned (OpenSpec.upto topFaultsSpec)

/-- 'citadeltop.TopUndo', WHERE WHAT IT READS IS OF BULK AT MOST 1048576: true; the input reads as it did. -/
def topUndoUptoRow : OpenClaim := { program := "ytcohamkngfehlaagreatdoor", sum := "3f1e821243038ec585ed80c41c3c8fb083163538baf6cb0607034a22d71c8308", func := "citadel/citadeltop.TopUndo", spec := "topUndo", unfollowed := true, recurses := true, named := ["math/bits.deBruijn32tab"], plainKeys := false, apart := false, laid := [("math/bits.deBruijn32tab", laid_math_bits_deBruijn32tab)], narrowed := true }
def TopUndoUptoSaid : Prop := topUndoUptoRow.holds Tryz.pinned (OpenSpec.upto topUndoSpec)

/-- 'citadeltop.TopHandOut', WHERE WHAT IT READS IS OF BULK AT MOST 1048576: true; the input reads as it did. -/
def topHandOutUptoRow : OpenClaim := { program := "ytcohamkngfehlaagreatdoor", sum := "3f1e821243038ec585ed80c41c3c8fb083163538baf6cb0607034a22d71c8308", func := "citadel/citadeltop.TopHandOut", spec := "topHandOut", unfollowed := true, recurses := true, named := ["math/bits.deBruijn32tab"], plainKeys := false, apart := false, laid := [("math/bits.deBruijn32tab", laid_math_bits_deBruijn32tab)], narrowed := true }
def TopHandOutUptoSaid : Prop := topHandOutUptoRow.holds Tryz.pinned (OpenSpec.upto topHandOutSpec)

end Rows
end Go.Proofs.YtcohamkngfehlaaGreatDoor
