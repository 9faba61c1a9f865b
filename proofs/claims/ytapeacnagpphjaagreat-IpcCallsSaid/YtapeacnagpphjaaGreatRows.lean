/-
  No cell of these rows narrows 'for every input' (looked for: loops, veiled, ifaces, maps, wideKeys, modest, calm, conditions, laid).
  DERIVED. THE GIVEN ROWS OF THIS SEAT. 7 by the template 'for every input the law returns true; each argument reads behind the call as it read before'; 0 by the template 'total and deterministic' (their statements: YtapeacnagpphjaaGreatTotals.lean).
  GIVEN WITH THE SEED: the statements are not yours to turn. If you find one false, say at which input.
  Laid BY PROGRAM, IN A SANDBOX (cutbox-rows.mjs): the forced cells as the released guide's own fill.sh prints them over the translation 7efb29972562fa2b… (all of the seat's roots in one cut). By AI agents, Wed Nov 11 2026. No macro, syntax, notation, axiom, sorry.
-/
import Derived.Test.YtapeacnagpphjaaGreatChecked
import GoSem.Claim
import GoSem.ClaimJoined
import GoSem.ClaimMapViews
import Derived.JoinedTies
import Derived.KernelRfl
namespace Go.Proofs.YtapeacnagpphjaaGreat
/- THE CELL 'sum', in the pinned program and in every row, IS THE sha256 OF THE DUMP (.gsa) THAT YtapeacnagpphjaaGreatProg.lean LOADS. Nothing in Lean hashes anything: it is a label: what it is worth is what the hold of that sum in a sandbox is worth. -/
noncomputable def Tryz.pinned : Pinned := { name := "ytapeacnagpphjaagreat", sum := "7efb29972562fa2b1160f3dc03a68e03dccf9937c7d8c3e683fc1c43394ec2c3", checked := Tryz.checked }
namespace Rows
def none {H : Type} : Left H := { results := [], args := [] }

/-- 'citadellaw17.IpcInfo': WHATEVER THE INPUT: true; the input reads as it did. -/
def ipcInfoSpec : ChangeSpec := { name := "ipcInfo", fn := fun _ => fun
  | [d1, d2, d3, d4] => { results := [.lit (.bool true)], args := [d1, d2, d3, d4] }
  | _ => none }
def ipcInfoRow : OpenClaim := { program := "ytapeacnagpphjaagreat", sum := "7efb29972562fa2b1160f3dc03a68e03dccf9937c7d8c3e683fc1c43394ec2c3", func := "citadel/citadellaw17.IpcInfo", spec := "ipcInfo", unfollowed := true, recurses := true, apart := false }
def IpcInfoSaid : Prop := ipcInfoRow.holds Tryz.pinned (OpenSpec.ofChange ipcInfoSpec)

/-- ITS FALSE NEIGHBOUR: 'it returns false'. Refute it at one input. -/
def ipcInfoWrong : ChangeSpec := { name := "ipcInfo", fn := fun _ => fun
  | [d1, d2, d3, d4] => { results := [.lit (.bool false)], args := [d1, d2, d3, d4] }
  | _ => none }
def IpcInfoWrongFalsely : Prop := ipcInfoRow.holds Tryz.pinned (OpenSpec.ofChange ipcInfoWrong)

/-- 'citadellaw17.IpcMoves': WHATEVER THE INPUT: true; the input reads as it did. -/
def ipcMovesSpec : ChangeSpec := { name := "ipcMoves", fn := fun _ => fun
  | [d1, d2, d3, d4] => { results := [.lit (.bool true)], args := [d1, d2, d3, d4] }
  | _ => none }
def ipcMovesRow : OpenClaim := { program := "ytapeacnagpphjaagreat", sum := "7efb29972562fa2b1160f3dc03a68e03dccf9937c7d8c3e683fc1c43394ec2c3", func := "citadel/citadellaw17.IpcMoves", spec := "ipcMoves", unfollowed := true, recurses := true, apart := false }
def IpcMovesSaid : Prop := ipcMovesRow.holds Tryz.pinned (OpenSpec.ofChange ipcMovesSpec)

/-- ITS FALSE NEIGHBOUR: 'it returns false'. Refute it at one input. -/
def ipcMovesWrong : ChangeSpec := { name := "ipcMoves", fn := fun _ => fun
  | [d1, d2, d3, d4] => { results := [.lit (.bool false)], args := [d1, d2, d3, d4] }
  | _ => none }
def IpcMovesWrongFalsely : Prop := ipcMovesRow.holds Tryz.pinned (OpenSpec.ofChange ipcMovesWrong)

/-- 'citadellaw17.IpcCalls': WHATEVER THE INPUT: true; the input reads as it did. -/
def ipcCallsSpec : ChangeSpec := { name := "ipcCalls", fn := fun _ => fun
  | [d1, d2, d3] => { results := [.lit (.bool true)], args := [d1, d2, d3] }
  | _ => none }
def ipcCallsRow : OpenClaim := { program := "ytapeacnagpphjaagreat", sum := "7efb29972562fa2b1160f3dc03a68e03dccf9937c7d8c3e683fc1c43394ec2c3", func := "citadel/citadellaw17.IpcCalls", spec := "ipcCalls", unfollowed := true, recurses := true, apart := false }
def IpcCallsSaid : Prop := ipcCallsRow.holds Tryz.pinned (OpenSpec.ofChange ipcCallsSpec)

/-- ITS FALSE NEIGHBOUR: 'it returns false'. Refute it at one input. -/
def ipcCallsWrong : ChangeSpec := { name := "ipcCalls", fn := fun _ => fun
  | [d1, d2, d3] => { results := [.lit (.bool false)], args := [d1, d2, d3] }
  | _ => none }
def IpcCallsWrongFalsely : Prop := ipcCallsRow.holds Tryz.pinned (OpenSpec.ofChange ipcCallsWrong)

/-- 'citadellaw17.IpcBrings': WHATEVER THE INPUT: true; the input reads as it did. -/
def ipcBringsSpec : ChangeSpec := { name := "ipcBrings", fn := fun _ => fun
  | [d1, d2, d3] => { results := [.lit (.bool true)], args := [d1, d2, d3] }
  | _ => none }
def ipcBringsRow : OpenClaim := { program := "ytapeacnagpphjaagreat", sum := "7efb29972562fa2b1160f3dc03a68e03dccf9937c7d8c3e683fc1c43394ec2c3", func := "citadel/citadellaw17.IpcBrings", spec := "ipcBrings", unfollowed := true, recurses := true, apart := false }
def IpcBringsSaid : Prop := ipcBringsRow.holds Tryz.pinned (OpenSpec.ofChange ipcBringsSpec)

/-- ITS FALSE NEIGHBOUR: 'it returns false'. Refute it at one input. -/
def ipcBringsWrong : ChangeSpec := { name := "ipcBrings", fn := fun _ => fun
  | [d1, d2, d3] => { results := [.lit (.bool false)], args := [d1, d2, d3] }
  | _ => none }
def IpcBringsWrongFalsely : Prop := ipcBringsRow.holds Tryz.pinned (OpenSpec.ofChange ipcBringsWrong)

/-- 'citadellaw17.IpcOnce': WHATEVER THE INPUT: true; the input reads as it did. -/
def ipcOnceSpec : ChangeSpec := { name := "ipcOnce", fn := fun _ => fun
  | [d] => { results := [.lit (.bool true)], args := [d] }
  | _ => none }
def ipcOnceRow : OpenClaim := { program := "ytapeacnagpphjaagreat", sum := "7efb29972562fa2b1160f3dc03a68e03dccf9937c7d8c3e683fc1c43394ec2c3", func := "citadel/citadellaw17.IpcOnce", spec := "ipcOnce", unfollowed := true, recurses := true, apart := false }
def IpcOnceSaid : Prop := ipcOnceRow.holds Tryz.pinned (OpenSpec.ofChange ipcOnceSpec)

/-- ITS FALSE NEIGHBOUR: 'it returns false'. Refute it at one input. -/
def ipcOnceWrong : ChangeSpec := { name := "ipcOnce", fn := fun _ => fun
  | [d] => { results := [.lit (.bool false)], args := [d] }
  | _ => none }
def IpcOnceWrongFalsely : Prop := ipcOnceRow.holds Tryz.pinned (OpenSpec.ofChange ipcOnceWrong)

/-- 'citadellaw17.IpcOrder': WHATEVER THE INPUT: true; the input reads as it did. -/
def ipcOrderSpec : ChangeSpec := { name := "ipcOrder", fn := fun _ => fun
  | [d1, d2, d3] => { results := [.lit (.bool true)], args := [d1, d2, d3] }
  | _ => none }
def ipcOrderRow : OpenClaim := { program := "ytapeacnagpphjaagreat", sum := "7efb29972562fa2b1160f3dc03a68e03dccf9937c7d8c3e683fc1c43394ec2c3", func := "citadel/citadellaw17.IpcOrder", spec := "ipcOrder", unfollowed := true, recurses := true, apart := false }
def IpcOrderSaid : Prop := ipcOrderRow.holds Tryz.pinned (OpenSpec.ofChange ipcOrderSpec)

/-- ITS FALSE NEIGHBOUR: 'it returns false'. Refute it at one input. -/
def ipcOrderWrong : ChangeSpec := { name := "ipcOrder", fn := fun _ => fun
  | [d1, d2, d3] => { results := [.lit (.bool false)], args := [d1, d2, d3] }
  | _ => none }
def IpcOrderWrongFalsely : Prop := ipcOrderRow.holds Tryz.pinned (OpenSpec.ofChange ipcOrderWrong)

/-- 'citadellaw17.IpcPlays': WHATEVER THE INPUT: true; the input reads as it did. -/
def ipcPlaysSpec : ChangeSpec := { name := "ipcPlays", fn := fun _ => fun
  | [d] => { results := [.lit (.bool true)], args := [d] }
  | _ => none }
def ipcPlaysRow : OpenClaim := { program := "ytapeacnagpphjaagreat", sum := "7efb29972562fa2b1160f3dc03a68e03dccf9937c7d8c3e683fc1c43394ec2c3", func := "citadel/citadellaw17.IpcPlays", spec := "ipcPlays", unfollowed := true, recurses := true, apart := false }
def IpcPlaysSaid : Prop := ipcPlaysRow.holds Tryz.pinned (OpenSpec.ofChange ipcPlaysSpec)

/-- ITS FALSE NEIGHBOUR: 'it returns false'. Refute it at one input. -/
def ipcPlaysWrong : ChangeSpec := { name := "ipcPlays", fn := fun _ => fun
  | [d] => { results := [.lit (.bool false)], args := [d] }
  | _ => none }
def IpcPlaysWrongFalsely : Prop := ipcPlaysRow.holds Tryz.pinned (OpenSpec.ofChange ipcPlaysWrong)

/- THE SECOND FORM. 'bulk': how many values and letters a reading holds, each counted each time it is reached (what is shared counts as often as it is met; a slice's spare places count too). A statement '..UptoSaid' is the law's where the arguments, and the package variables that the reading takes, are together of bulk at most 1048576: NARROWER than '..Said'. Prove '..Said' where nothing that the law and all that it calls make is longer than what came in: it says more and counts as full. Else prove '..UptoSaid'. A law counts once. -/
mutual
def uptoBulk {H : Type} : DataW H → Nat
  | .lit (.string bytes) => bytes.length + 1
  | .lit _ => 1
  | .nil => 1
  | .ptr d => uptoBulk d + 1
  | .slice elems spare => uptoBulkAll elems + uptoBulkAll spare + 1
  | .agg parts => uptoBulkAll parts + 1
  | .iface _ d => uptoBulk d + 1
  | .map entries => uptoBulkEntries entries + 1
  | .held _ => 1
def uptoBulkAll {H : Type} : List (DataW H) → Nat
  | [] => 0
  | d :: r => uptoBulk d + uptoBulkAll r
def uptoBulkEntries {H : Type} : List (Lit × DataW H) → Nat
  | [] => 0
  | x :: r => uptoBulkEntry x + uptoBulkEntries r
def uptoBulkEntry {H : Type} : Lit × DataW H → Nat
  | (.string bytes, d) => bytes.length + uptoBulk d + 1
  | (_, d) => uptoBulk d + 1
 end
def uptoSmall : (H : Type) → List (DataW H) → Bool := fun _ ds => decide (uptoBulkAll ds ≤ 1048576)
def OpenSpec.upto (s : _root_.Go.ChangeSpec) : _root_.Go.OpenSpec := { _root_.Go.OpenSpec.ofChange s with cond := some uptoSmall }

/-- 'citadellaw17.IpcInfo', WHERE WHAT IT READS IS OF BULK AT MOST 1048576: true; the input reads as it did. -/
def ipcInfoUptoRow : OpenClaim := { program := "ytapeacnagpphjaagreat", sum := "7efb29972562fa2b1160f3dc03a68e03dccf9937c7d8c3e683fc1c43394ec2c3", func := "citadel/citadellaw17.IpcInfo", spec := "ipcInfo", unfollowed := true, recurses := true, apart := false, narrowed := true }
def IpcInfoUptoSaid : Prop := ipcInfoUptoRow.holds Tryz.pinned (OpenSpec.upto ipcInfoSpec)

/-- 'citadellaw17.IpcMoves', WHERE WHAT IT READS IS OF BULK AT MOST 1048576: true; the input reads as it did. -/
def ipcMovesUptoRow : OpenClaim := { program := "ytapeacnagpphjaagreat", sum := "7efb29972562fa2b1160f3dc03a68e03dccf9937c7d8c3e683fc1c43394ec2c3", func := "citadel/citadellaw17.IpcMoves", spec := "ipcMoves", unfollowed := true, recurses := true, apart := false, narrowed := true }
def IpcMovesUptoSaid : Prop := ipcMovesUptoRow.holds Tryz.pinned (OpenSpec.upto ipcMovesSpec)

/-- 'citadellaw17.IpcCalls', WHERE WHAT IT READS IS OF BULK AT MOST 1048576: true; the input reads as it did. -/
def ipcCallsUptoRow : OpenClaim := { program := "ytapeacnagpphjaagreat", sum := "7efb29972562fa2b1160f3dc03a68e03dccf9937c7d8c3e683fc1c43394ec2c3", func := "citadel/citadellaw17.IpcCalls", spec := "ipcCalls", unfollowed := true, recurses := true, apart := false, narrowed := true }
def IpcCallsUptoSaid : Prop := ipcCallsUptoRow.holds Tryz.pinned (OpenSpec.upto ipcCallsSpec)

/-- 'citadellaw17.IpcBrings', WHERE WHAT IT READS IS OF BULK AT MOST 1048576: true; the input reads as it did. -/
def ipcBringsUptoRow : OpenClaim := { program := "ytapeacnagpphjaagreat", sum := "7efb29972562fa2b1160f3dc03a68e03dccf9937c7d8c3e683fc1c43394ec2c3", func := "citadel/citadellaw17.IpcBrings", spec := "ipcBrings", unfollowed := true, recurses := true, apart := false, narrowed := true }
def IpcBringsUptoSaid : Prop := ipcBringsUptoRow.holds Tryz.pinned (OpenSpec.upto ipcBringsSpec)

/-- 'citadellaw17.IpcOnce', WHERE WHAT IT READS IS OF BULK AT MOST 1048576: true; the input reads as it did. -/
def ipcOnceUptoRow : OpenClaim := { program := "ytapeacnagpphjaagreat", sum := "7efb29972562fa2b1160f3dc03a68e03dccf9937c7d8c3e683fc1c43394ec2c3", func := "citadel/citadellaw17.IpcOnce", spec := "ipcOnce", unfollowed := true, recurses := true, apart := false, narrowed := true }
def IpcOnceUptoSaid : Prop := ipcOnceUptoRow.holds Tryz.pinned (OpenSpec.upto ipcOnceSpec)

/-- 'citadellaw17.IpcOrder', WHERE WHAT IT READS IS OF BULK AT MOST 1048576: true; the input reads as it did. -/
def ipcOrderUptoRow : OpenClaim := { program := "ytapeacnagpphjaagreat", sum := "7efb29972562fa2b1160f3dc03a68e03dccf9937c7d8c3e683fc1c43394ec2c3", func := "citadel/citadellaw17.IpcOrder", spec := "ipcOrder", unfollowed := true, recurses := true, apart := false, narrowed := true }
def IpcOrderUptoSaid : Prop := ipcOrderUptoRow.holds Tryz.pinned (OpenSpec.upto ipcOrderSpec)

/-- 'citadellaw17.IpcPlays', WHERE WHAT IT READS IS OF BULK AT MOST 1048576: true; the input reads as it did. -/
def ipcPlaysUptoRow : OpenClaim := { program := "ytapeacnagpphjaagreat", sum := "7efb29972562fa2b1160f3dc03a68e03dccf9937c7d8c3e683fc1c43394ec2c3", func := "citadel/citadellaw17.IpcPlays", spec := "ipcPlays", unfollowed := true, recurses := true, apart := false, narrowed := true }
def IpcPlaysUptoSaid : Prop := ipcPlaysUptoRow.holds Tryz.pinned (OpenSpec.upto ipcPlaysSpec)

end Rows
end Go.Proofs.YtapeacnagpphjaaGreat
