/-
  NARROWER THAN 'FOR EVERY INPUT', by the rows' own cells (each row's printed sentence says how): KernelTurns: laid · KernelUnknown: laid · KernelLines: laid · KernelIdle: laid.
  DERIVED. THE GIVEN ROWS OF THIS SEAT. 4 by the template 'for every input the law returns true; each argument reads behind the call as it read before'; 0 by the template 'total and deterministic' (their statements: YtligpkenodgfoaaGreatDoorTotals.lean).
  GIVEN WITH THE SEED: the statements are not yours to turn. If you find one false, say at which input.
  Laid BY PROGRAM, IN A SANDBOX (cutbox-rows.mjs): the forced cells as the released guide's own fill.sh prints them over the translation 385dbb76418634fe… (all of the seat's roots in one cut). By AI agents, Wed Nov 11 2026. No macro, syntax, notation, axiom, sorry.
-/
import Derived.Test.YtligpkenodgfoaaGreatDoorChecked
import GoSem.Claim
import GoSem.ClaimJoined
import GoSem.ClaimMapViews
import Derived.JoinedTies
import Derived.KernelRfl
namespace Go.Proofs.YtligpkenodgfoaaGreatDoor
/- THE CELL 'sum', in the pinned program and in every row, IS THE sha256 OF THE DUMP (.gsa) THAT YtligpkenodgfoaaGreatDoorProg.lean LOADS. Nothing in Lean hashes anything: it is a label: what it is worth is what the hold of that sum in a sandbox is worth. -/
noncomputable def Tryz.pinned : Pinned := { name := "ytligpkenodgfoaagreatdoor", sum := "385dbb76418634fecd169588701c9a773d160081dbfbb08101c83725cf8fab90", checked := Tryz.checked }
namespace Rows
def none {H : Type} : Left H := { results := [], args := [] }

/- WHAT THE LISTED PACKAGE-LEVEL VARIABLES READ AS WHEN THE CALL BEGINS. Each datum BY PROGRAM (the guide's laid-datum.mjs) off the statement by which the dump's own 'gosem.cut.vars' lays the variable. In a bare row this is a premise. The card (YtligpkenodgfoaaGreatDoorCards.lean) ties it to the program's text. -/
def laid_math_bits_deBruijn32tab {H : Type} : DataW H := .agg [.lit (.int .u8 0), .lit (.int .u8 1), .lit (.int .u8 28), .lit (.int .u8 2), .lit (.int .u8 29), .lit (.int .u8 14), .lit (.int .u8 24), .lit (.int .u8 3), .lit (.int .u8 30), .lit (.int .u8 22), .lit (.int .u8 20), .lit (.int .u8 15), .lit (.int .u8 25), .lit (.int .u8 17), .lit (.int .u8 4), .lit (.int .u8 8), .lit (.int .u8 31), .lit (.int .u8 27), .lit (.int .u8 13), .lit (.int .u8 23), .lit (.int .u8 21), .lit (.int .u8 19), .lit (.int .u8 16), .lit (.int .u8 7), .lit (.int .u8 26), .lit (.int .u8 12), .lit (.int .u8 18), .lit (.int .u8 6), .lit (.int .u8 11), .lit (.int .u8 5), .lit (.int .u8 10), .lit (.int .u8 9)]

/-- 'citadellaw23.KernelTurns': WHATEVER THE INPUT: true; the input reads as it did. -/
def kernelTurnsSpec : ChangeSpec := { name := "kernelTurns", fn := fun _ => fun
  | [d] => { results := [.lit (.bool true)], args := [d] }
  | _ => none }
def kernelTurnsRow : OpenClaim := { program := "ytligpkenodgfoaagreatdoor", sum := "385dbb76418634fecd169588701c9a773d160081dbfbb08101c83725cf8fab90", func := "citadel/citadellaw23.KernelTurns", spec := "kernelTurns", unfollowed := true, recurses := true, named := ["math/bits.deBruijn32tab"], plainKeys := false, apart := false, laid := [("math/bits.deBruijn32tab", laid_math_bits_deBruijn32tab)] }
def KernelTurnsSaid : Prop := kernelTurnsRow.holds Tryz.pinned (OpenSpec.ofChange kernelTurnsSpec)

/-- ITS FALSE NEIGHBOUR: 'it returns false'. Refute it at one input. -/
def kernelTurnsWrong : ChangeSpec := { name := "kernelTurns", fn := fun _ => fun
  | [d] => { results := [.lit (.bool false)], args := [d] }
  | _ => none }
def KernelTurnsWrongFalsely : Prop := kernelTurnsRow.holds Tryz.pinned (OpenSpec.ofChange kernelTurnsWrong)

/-- 'citadellaw23.KernelUnknown': WHATEVER THE INPUT: true; the input reads as it did. -/
def kernelUnknownSpec : ChangeSpec := { name := "kernelUnknown", fn := fun _ => fun
  | [d] => { results := [.lit (.bool true)], args := [d] }
  | _ => none }
def kernelUnknownRow : OpenClaim := { program := "ytligpkenodgfoaagreatdoor", sum := "385dbb76418634fecd169588701c9a773d160081dbfbb08101c83725cf8fab90", func := "citadel/citadellaw23.KernelUnknown", spec := "kernelUnknown", unfollowed := true, recurses := true, named := ["math/bits.deBruijn32tab"], plainKeys := false, apart := false, laid := [("math/bits.deBruijn32tab", laid_math_bits_deBruijn32tab)] }
def KernelUnknownSaid : Prop := kernelUnknownRow.holds Tryz.pinned (OpenSpec.ofChange kernelUnknownSpec)

/-- ITS FALSE NEIGHBOUR: 'it returns false'. Refute it at one input. -/
def kernelUnknownWrong : ChangeSpec := { name := "kernelUnknown", fn := fun _ => fun
  | [d] => { results := [.lit (.bool false)], args := [d] }
  | _ => none }
def KernelUnknownWrongFalsely : Prop := kernelUnknownRow.holds Tryz.pinned (OpenSpec.ofChange kernelUnknownWrong)

/-- 'citadellaw23.KernelLines': WHATEVER THE INPUT: true; the input reads as it did. -/
def kernelLinesSpec : ChangeSpec := { name := "kernelLines", fn := fun _ => fun
  | [d1, d2, d3] => { results := [.lit (.bool true)], args := [d1, d2, d3] }
  | _ => none }
def kernelLinesRow : OpenClaim := { program := "ytligpkenodgfoaagreatdoor", sum := "385dbb76418634fecd169588701c9a773d160081dbfbb08101c83725cf8fab90", func := "citadel/citadellaw23.KernelLines", spec := "kernelLines", unfollowed := true, recurses := true, named := ["math/bits.deBruijn32tab"], plainKeys := false, apart := false, laid := [("math/bits.deBruijn32tab", laid_math_bits_deBruijn32tab)] }
def KernelLinesSaid : Prop := kernelLinesRow.holds Tryz.pinned (OpenSpec.ofChange kernelLinesSpec)

/-- ITS FALSE NEIGHBOUR: 'it returns false'. Refute it at one input. -/
def kernelLinesWrong : ChangeSpec := { name := "kernelLines", fn := fun _ => fun
  | [d1, d2, d3] => { results := [.lit (.bool false)], args := [d1, d2, d3] }
  | _ => none }
def KernelLinesWrongFalsely : Prop := kernelLinesRow.holds Tryz.pinned (OpenSpec.ofChange kernelLinesWrong)

/-- 'citadellaw23.KernelIdle': WHATEVER THE INPUT: true; the input reads as it did. -/
def kernelIdleSpec : ChangeSpec := { name := "kernelIdle", fn := fun _ => fun
  | [d] => { results := [.lit (.bool true)], args := [d] }
  | _ => none }
def kernelIdleRow : OpenClaim := { program := "ytligpkenodgfoaagreatdoor", sum := "385dbb76418634fecd169588701c9a773d160081dbfbb08101c83725cf8fab90", func := "citadel/citadellaw23.KernelIdle", spec := "kernelIdle", unfollowed := true, recurses := true, named := ["math/bits.deBruijn32tab"], plainKeys := false, apart := false, laid := [("math/bits.deBruijn32tab", laid_math_bits_deBruijn32tab)] }
def KernelIdleSaid : Prop := kernelIdleRow.holds Tryz.pinned (OpenSpec.ofChange kernelIdleSpec)

/-- ITS FALSE NEIGHBOUR: 'it returns false'. Refute it at one input. -/
def kernelIdleWrong : ChangeSpec := { name := "kernelIdle", fn := fun _ => fun
  | [d] => { results := [.lit (.bool false)], args := [d] }
  | _ => none }
def KernelIdleWrongFalsely : Prop := kernelIdleRow.holds Tryz.pinned (OpenSpec.ofChange kernelIdleWrong)

/- THE SECOND FORM. 'bulk': how many values and letters a reading holds, each counted each time it is reached (what is shared counts as often as it is met; a slice's spare places count too). A statement '..UptoSaid' is the law's where the arguments, and the package variables that the reading takes, are together of bulk at most 1048576: NARROWER than '..Said'. Prove '..Said' where nothing that the law and all that it calls make is longer than what came in: it says more and counts as full. Else prove '..UptoSaid'. A law counts once. -/
mutual
def uptoBulk {H : Type} : DataW H → Nat
  | .lit (.string bytes) => bytes.length + 1
  | .lit _ => 1
  | .nil => 1
  | .ptr d => uptoBulk d + 1
  | .slice elems spare => uptoBulkAll elems + uptoBulkAll spare + 1
  | .agg parts => uptoBulkAll parts + 1
  | .iface _ d => uptoBulk d + 1
  | .map entries => uptoBulkEntries entries + 1
  | .held _ => 1
def uptoBulkAll {H : Type} : List (DataW H) → Nat
  | [] => 0
  | d :: r => uptoBulk d + uptoBulkAll r
def uptoBulkEntries {H : Type} : List (Lit × DataW H) → Nat
  | [] => 0
  | x :: r => uptoBulkEntry x + uptoBulkEntries r
def uptoBulkEntry {H : Type} : Lit × DataW H → Nat
  | (.string bytes, d) => bytes.length + uptoBulk d + 1
  | (_, d) => uptoBulk d + 1
 end
def uptoSmall : (H : Type) → List (DataW H) → Bool := fun _ ds => decide (uptoBulkAll ds ≤ 1048576)
def OpenSpec.upto (s : _root_.Go.ChangeSpec) : _root_.Go.OpenSpec := { _root_.Go.OpenSpec.ofChange s with cond := some uptoSmall }

/-- 'citadellaw23.KernelTurns', WHERE WHAT IT READS IS OF BULK AT MOST 1048576: true; the input reads as it did. -/
def kernelTurnsUptoRow : OpenClaim := { program := "ytligpkenodgfoaagreatdoor", sum := "385dbb76418634fecd169588701c9a773d160081dbfbb08101c83725cf8fab90", func := "citadel/citadellaw23.KernelTurns", spec := "kernelTurns", unfollowed := true, recurses := true, named := ["math/bits.deBruijn32tab"], plainKeys := false, apart := false, laid := [("math/bits.deBruijn32tab", laid_math_bits_deBruijn32tab)], narrowed := true }
def KernelTurnsUptoSaid : Prop := kernelTurnsUptoRow.holds Tryz.pinned (OpenSpec.upto kernelTurnsSpec)

/-- 'citadellaw23.KernelUnknown', WHERE WHAT IT READS IS OF BULK AT MOST 1048576: true; the input reads as it did. -/
def kernelUnknownUptoRow : OpenClaim := { program := "ytligpkenodgfoaagreatdoor", sum := "385dbb76418634fecd169588701c9a773d160081dbfbb08101c83725cf8fab90", func := "citadel/citadellaw23.KernelUnknown", spec := "kernelUnknown", unfollowed := true, recurses := true, named := ["math/bits.deBruijn32tab"], plainKeys := false, apart := false, laid := [("math/bits.deBruijn32tab", laid_math_bits_deBruijn32tab)], narrowed := true }
def KernelUnknownUptoSaid : Prop := kernelUnknownUptoRow.holds Tryz.pinned (OpenSpec.upto kernelUnknownSpec)

/-- 'citadellaw23.KernelLines', WHERE WHAT IT READS IS OF BULK AT MOST 1048576: true; the input reads as it did. -/
def kernelLinesUptoRow : OpenClaim := { program := "ytligpkenodgfoaagreatdoor", sum := "385dbb76418634fecd169588701c9a773d160081dbfbb08101c83725cf8fab90", func := "citadel/citadellaw23.KernelLines", spec := "kernelLines", unfollowed := true, recurses := true, named := ["math/bits.deBruijn32tab"], plainKeys := false, apart := false, laid := [("math/bits.deBruijn32tab", laid_math_bits_deBruijn32tab)], narrowed := true }
def KernelLinesUptoSaid : Prop := kernelLinesUptoRow.holds Tryz.pinned (OpenSpec.upto kernelLinesSpec)

/-- 'citadellaw23.KernelIdle', WHERE WHAT IT READS IS OF BULK AT MOST 1048576: true; the input reads as it did. -/
def kernelIdleUptoRow : OpenClaim := { program := "ytligpkenodgfoaagreatdoor", sum := "385dbb76418634fecd169588701c9a773d160081dbfbb08101c83725cf8fab90", func := "citadel/citadellaw23.KernelIdle", spec := "kernelIdle", unfollowed := true, recurses := true, named := ["math/bits.deBruijn32tab"], plainKeys := false, apart := false, laid := [("math/bits.deBruijn32tab", laid_math_bits_deBruijn32tab)], narrowed := true }
def KernelIdleUptoSaid : Prop := kernelIdleUptoRow.holds Tryz.pinned (OpenSpec.upto kernelIdleSpec)

end Rows
end Go.Proofs.YtligpkenodgfoaaGreatDoor
