/-
  No cell of these rows narrows 'for every input' (looked for: loops, veiled, ifaces, maps, wideKeys, modest, calm, conditions, laid).
  DERIVED. THE GIVEN ROWS OF THIS SEAT. 3 by the template 'for every input the law returns true; each argument reads behind the call as it read before'; 0 by the template 'total and deterministic' (their statements: YtcinokgfjdifbaaGreatTotals.lean).
  GIVEN WITH THE SEED: the statements are not yours to turn. If you find one false, say at which input.
  Laid BY PROGRAM, IN A SANDBOX (cutbox-rows.mjs): the forced cells as the released guide's own fill.sh prints them over the translation d925da6c21b3b05d… (all of the seat's roots in one cut). By AI agents, Wed Nov 11 2026. No macro, syntax, notation, axiom, sorry.
-/
import Derived.Test.YtcinokgfjdifbaaGreatChecked
import GoSem.Claim
import GoSem.ClaimJoined
import GoSem.ClaimMapViews
import Derived.JoinedTies
import Derived.KernelRfl
namespace Go.Proofs.YtcinokgfjdifbaaGreat
/- THE CELL 'sum', in the pinned program and in every row, IS THE sha256 OF THE DUMP (.gsa) THAT YtcinokgfjdifbaaGreatProg.lean LOADS. Nothing in Lean hashes anything: it is a label: what it is worth is what the hold of that sum in a sandbox is worth. -/
noncomputable def Tryz.pinned : Pinned := { name := "ytcinokgfjdifbaagreat", sum := "d925da6c21b3b05dd34e5d5d4cef594f7bdf85b284202fac618f085f1b550c00", checked := Tryz.checked }
namespace Rows
def none {H : Type} : Left H := { results := [], args := [] }

/-- 'citadellaw16.EpCancel': WHATEVER THE INPUT: true; the input reads as it did. -/
def epCancelSpec : ChangeSpec := { name := "epCancel", fn := fun _ => fun
  | [d1, d2] => { results := [.lit (.bool true)], args := [d1, d2] }
  | _ => none }
def epCancelRow : OpenClaim := { program := "ytcinokgfjdifbaagreat", sum := "d925da6c21b3b05dd34e5d5d4cef594f7bdf85b284202fac618f085f1b550c00", func := "citadel/citadellaw16.EpCancel", spec := "epCancel", unfollowed := true, recurses := true, apart := false }
def EpCancelSaid : Prop := epCancelRow.holds Tryz.pinned (OpenSpec.ofChange epCancelSpec)

/-- ITS FALSE NEIGHBOUR: 'it returns false'. Refute it at one input. -/
def epCancelWrong : ChangeSpec := { name := "epCancel", fn := fun _ => fun
  | [d1, d2] => { results := [.lit (.bool false)], args := [d1, d2] }
  | _ => none }
def EpCancelWrongFalsely : Prop := epCancelRow.holds Tryz.pinned (OpenSpec.ofChange epCancelWrong)

/-- 'citadellaw16.EpBadged': WHATEVER THE INPUT: true; the input reads as it did. -/
def epBadgedSpec : ChangeSpec := { name := "epBadged", fn := fun _ => fun
  | [d1, d2, d3] => { results := [.lit (.bool true)], args := [d1, d2, d3] }
  | _ => none }
def epBadgedRow : OpenClaim := { program := "ytcinokgfjdifbaagreat", sum := "d925da6c21b3b05dd34e5d5d4cef594f7bdf85b284202fac618f085f1b550c00", func := "citadel/citadellaw16.EpBadged", spec := "epBadged", unfollowed := true, recurses := true, apart := false }
def EpBadgedSaid : Prop := epBadgedRow.holds Tryz.pinned (OpenSpec.ofChange epBadgedSpec)

/-- ITS FALSE NEIGHBOUR: 'it returns false'. Refute it at one input. -/
def epBadgedWrong : ChangeSpec := { name := "epBadged", fn := fun _ => fun
  | [d1, d2, d3] => { results := [.lit (.bool false)], args := [d1, d2, d3] }
  | _ => none }
def EpBadgedWrongFalsely : Prop := epBadgedRow.holds Tryz.pinned (OpenSpec.ofChange epBadgedWrong)

/-- 'citadellaw16.EpPlays': WHATEVER THE INPUT: true; the input reads as it did. -/
def epPlaysSpec : ChangeSpec := { name := "epPlays", fn := fun _ => fun
  | [d] => { results := [.lit (.bool true)], args := [d] }
  | _ => none }
def epPlaysRow : OpenClaim := { program := "ytcinokgfjdifbaagreat", sum := "d925da6c21b3b05dd34e5d5d4cef594f7bdf85b284202fac618f085f1b550c00", func := "citadel/citadellaw16.EpPlays", spec := "epPlays", unfollowed := true, recurses := true, apart := false }
def EpPlaysSaid : Prop := epPlaysRow.holds Tryz.pinned (OpenSpec.ofChange epPlaysSpec)

/-- ITS FALSE NEIGHBOUR: 'it returns false'. Refute it at one input. -/
def epPlaysWrong : ChangeSpec := { name := "epPlays", fn := fun _ => fun
  | [d] => { results := [.lit (.bool false)], args := [d] }
  | _ => none }
def EpPlaysWrongFalsely : Prop := epPlaysRow.holds Tryz.pinned (OpenSpec.ofChange epPlaysWrong)

/- THE SECOND FORM. 'bulk': how many values and letters a reading holds, each counted each time it is reached (what is shared counts as often as it is met; a slice's spare places count too). A statement '..UptoSaid' is the law's where the arguments, and the package variables that the reading takes, are together of bulk at most 1048576: NARROWER than '..Said'. Prove '..Said' where nothing that the law and all that it calls make is longer than what came in: it says more and counts as full. Else prove '..UptoSaid'. A law counts once. -/
mutual
def uptoBulk {H : Type} : DataW H → Nat
  | .lit (.string bytes) => bytes.length + 1
  | .lit _ => 1
  | .nil => 1
  | .ptr d => uptoBulk d + 1
  | .slice elems spare => uptoBulkAll elems + uptoBulkAll spare + 1
  | .agg parts => uptoBulkAll parts + 1
  | .iface _ d => uptoBulk d + 1
  | .map entries => uptoBulkEntries entries + 1
  | .held _ => 1
def uptoBulkAll {H : Type} : List (DataW H) → Nat
  | [] => 0
  | d :: r => uptoBulk d + uptoBulkAll r
def uptoBulkEntries {H : Type} : List (Lit × DataW H) → Nat
  | [] => 0
  | x :: r => uptoBulkEntry x + uptoBulkEntries r
def uptoBulkEntry {H : Type} : Lit × DataW H → Nat
  | (.string bytes, d) => bytes.length + uptoBulk d + 1
  | (_, d) => uptoBulk d + 1
 end
def uptoSmall : (H : Type) → List (DataW H) → Bool := fun _ ds => decide (uptoBulkAll ds ≤ 1048576)
def OpenSpec.upto (s : _root_.Go.ChangeSpec) : _root_.Go.OpenSpec := { _root_.Go.OpenSpec.ofChange s with cond := some uptoSmall }

/-- 'citadellaw16.EpCancel', WHERE WHAT IT READS IS OF BULK AT MOST 1048576: true; the input reads as it did. -/
def epCancelUptoRow : OpenClaim := { program := "ytcinokgfjdifbaagreat", sum := "d925da6c21b3b05dd34e5d5d4cef594f7bdf85b284202fac618f085f1b550c00", func := "citadel/citadellaw16.EpCancel", spec := "epCancel", unfollowed := true, recurses := true, apart := false, narrowed := true }
def EpCancelUptoSaid : Prop := epCancelUptoRow.holds Tryz.pinned (OpenSpec.upto epCancelSpec)

/-- 'citadellaw16.EpBadged', WHERE WHAT IT READS IS OF BULK AT MOST 1048576: true; the input reads as it did. -/
def epBadgedUptoRow : OpenClaim := { program := "ytcinokgfjdifbaagreat", sum := "d925da6c21b3b05dd34e5d5d4cef594f7bdf85b284202fac618f085f1b550c00", func := "citadel/citadellaw16.EpBadged", spec := "epBadged", unfollowed := true, recurses := true, apart := false, narrowed := true }
def EpBadgedUptoSaid : Prop := epBadgedUptoRow.holds Tryz.pinned (OpenSpec.upto epBadgedSpec)

/-- 'citadellaw16.EpPlays', WHERE WHAT IT READS IS OF BULK AT MOST 1048576: true; the input reads as it did. -/
def epPlaysUptoRow : OpenClaim := { program := "ytcinokgfjdifbaagreat", sum := "d925da6c21b3b05dd34e5d5d4cef594f7bdf85b284202fac618f085f1b550c00", func := "citadel/citadellaw16.EpPlays", spec := "epPlays", unfollowed := true, recurses := true, apart := false, narrowed := true }
def EpPlaysUptoSaid : Prop := epPlaysUptoRow.holds Tryz.pinned (OpenSpec.upto epPlaysSpec)

end Rows
end Go.Proofs.YtcinokgfjdifbaaGreat
