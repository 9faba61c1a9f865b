/-
  No cell of these rows narrows 'for every input' (looked for: loops, veiled, ifaces, maps, wideKeys, modest, calm, conditions, laid).
  DERIVED. THE GIVEN ROWS OF THIS SEAT. 4 by the template 'for every input the law returns true; each argument reads behind the call as it read before'; 0 by the template 'total and deterministic' (their statements: YtedbnfdmeigabaaGreatTotals.lean).
  GIVEN WITH THE SEED: the statements are not yours to turn. If you find one false, say at which input.
  Laid BY PROGRAM, IN A SANDBOX (cutbox-rows.mjs): the forced cells as the released guide's own fill.sh prints them over the translation a0a640b7042f3a4b… (all of the seat's roots in one cut). By AI agents, Wed Nov 11 2026. No macro, syntax, notation, axiom, sorry.
-/
import Derived.Test.YtedbnfdmeigabaaGreatChecked
import GoSem.Claim
import GoSem.ClaimJoined
import GoSem.ClaimMapViews
import Derived.JoinedTies
import Derived.KernelRfl
namespace Go.Proofs.YtedbnfdmeigabaaGreat
/- THE CELL 'sum', in the pinned program and in every row, IS THE sha256 OF THE DUMP (.gsa) THAT YtedbnfdmeigabaaGreatProg.lean LOADS. Nothing in Lean hashes anything: it is a label: what it is worth is what the hold of that sum in a sandbox is worth. -/
noncomputable def Tryz.pinned : Pinned := { name := "ytedbnfdmeigabaagreat", sum := "a0a640b7042f3a4b693f4d2278fcb00dd71fca0cadb7c41319dfd25ece018a60", checked := Tryz.checked }
namespace Rows
def none {H : Type} : Left H := { results := [], args := [] }

/-- 'citadellaw18.NotesTurns': WHATEVER THE INPUT: true; the input reads as it did. -/
def notesTurnsSpec : ChangeSpec := { name := "notesTurns", fn := fun _ => fun
  | [d1, d2] => { results := [.lit (.bool true)], args := [d1, d2] }
  | _ => none }
def notesTurnsRow : OpenClaim := { program := "ytedbnfdmeigabaagreat", sum := "a0a640b7042f3a4b693f4d2278fcb00dd71fca0cadb7c41319dfd25ece018a60", func := "citadel/citadellaw18.NotesTurns", spec := "notesTurns", unfollowed := true, recurses := true, plainKeys := false, apart := false }
def NotesTurnsSaid : Prop := notesTurnsRow.holds Tryz.pinned (OpenSpec.ofChange notesTurnsSpec)

/-- ITS FALSE NEIGHBOUR: 'it returns false'. Refute it at one input. -/
def notesTurnsWrong : ChangeSpec := { name := "notesTurns", fn := fun _ => fun
  | [d1, d2] => { results := [.lit (.bool false)], args := [d1, d2] }
  | _ => none }
def NotesTurnsWrongFalsely : Prop := notesTurnsRow.holds Tryz.pinned (OpenSpec.ofChange notesTurnsWrong)

/-- 'citadellaw17.IpcOrder': WHATEVER THE INPUT: true; the input reads as it did. -/
def ipcOrderSpec : ChangeSpec := { name := "ipcOrder", fn := fun _ => fun
  | [d1, d2, d3] => { results := [.lit (.bool true)], args := [d1, d2, d3] }
  | _ => none }
def ipcOrderRow : OpenClaim := { program := "ytedbnfdmeigabaagreat", sum := "a0a640b7042f3a4b693f4d2278fcb00dd71fca0cadb7c41319dfd25ece018a60", func := "citadel/citadellaw17.IpcOrder", spec := "ipcOrder", unfollowed := true, recurses := true, plainKeys := false, apart := false }
def IpcOrderSaid : Prop := ipcOrderRow.holds Tryz.pinned (OpenSpec.ofChange ipcOrderSpec)

/-- ITS FALSE NEIGHBOUR: 'it returns false'. Refute it at one input. -/
def ipcOrderWrong : ChangeSpec := { name := "ipcOrder", fn := fun _ => fun
  | [d1, d2, d3] => { results := [.lit (.bool false)], args := [d1, d2, d3] }
  | _ => none }
def IpcOrderWrongFalsely : Prop := ipcOrderRow.holds Tryz.pinned (OpenSpec.ofChange ipcOrderWrong)

/-- 'citadellaw21.InvokeKinds': WHATEVER THE INPUT: true; the input reads as it did. -/
def invokeKindsSpec : ChangeSpec := { name := "invokeKinds", fn := fun _ => fun
  | [d1, d2, d3] => { results := [.lit (.bool true)], args := [d1, d2, d3] }
  | _ => none }
def invokeKindsRow : OpenClaim := { program := "ytedbnfdmeigabaagreat", sum := "a0a640b7042f3a4b693f4d2278fcb00dd71fca0cadb7c41319dfd25ece018a60", func := "citadel/citadellaw21.InvokeKinds", spec := "invokeKinds", unfollowed := true, recurses := true, plainKeys := false, apart := false }
def InvokeKindsSaid : Prop := invokeKindsRow.holds Tryz.pinned (OpenSpec.ofChange invokeKindsSpec)

/-- ITS FALSE NEIGHBOUR: 'it returns false'. Refute it at one input. -/
def invokeKindsWrong : ChangeSpec := { name := "invokeKinds", fn := fun _ => fun
  | [d1, d2, d3] => { results := [.lit (.bool false)], args := [d1, d2, d3] }
  | _ => none }
def InvokeKindsWrongFalsely : Prop := invokeKindsRow.holds Tryz.pinned (OpenSpec.ofChange invokeKindsWrong)

/-- 'citadellaw21.InvokeLines': WHATEVER THE INPUT: true; the input reads as it did. -/
def invokeLinesSpec : ChangeSpec := { name := "invokeLines", fn := fun _ => fun
  | [d1, d2] => { results := [.lit (.bool true)], args := [d1, d2] }
  | _ => none }
def invokeLinesRow : OpenClaim := { program := "ytedbnfdmeigabaagreat", sum := "a0a640b7042f3a4b693f4d2278fcb00dd71fca0cadb7c41319dfd25ece018a60", func := "citadel/citadellaw21.InvokeLines", spec := "invokeLines", unfollowed := true, recurses := true, plainKeys := false, apart := false }
def InvokeLinesSaid : Prop := invokeLinesRow.holds Tryz.pinned (OpenSpec.ofChange invokeLinesSpec)

/-- ITS FALSE NEIGHBOUR: 'it returns false'. Refute it at one input. -/
def invokeLinesWrong : ChangeSpec := { name := "invokeLines", fn := fun _ => fun
  | [d1, d2] => { results := [.lit (.bool false)], args := [d1, d2] }
  | _ => none }
def InvokeLinesWrongFalsely : Prop := invokeLinesRow.holds Tryz.pinned (OpenSpec.ofChange invokeLinesWrong)

/- THE SECOND FORM. 'bulk': how many values and letters a reading holds, each counted each time it is reached (what is shared counts as often as it is met; a slice's spare places count too). A statement '..UptoSaid' is the law's where the arguments, and the package variables that the reading takes, are together of bulk at most 1048576: NARROWER than '..Said'. Prove '..Said' where nothing that the law and all that it calls make is longer than what came in: it says more and counts as full. Else prove '..UptoSaid'. A law counts once. -/
mutual
def uptoBulk {H : Type} : DataW H → Nat
  | .lit (.string bytes) => bytes.length + 1
  | .lit _ => 1
  | .nil => 1
  | .ptr d => uptoBulk d + 1
  | .slice elems spare => uptoBulkAll elems + uptoBulkAll spare + 1
  | .agg parts => uptoBulkAll parts + 1
  | .iface _ d => uptoBulk d + 1
  | .map entries => uptoBulkEntries entries + 1
  | .held _ => 1
def uptoBulkAll {H : Type} : List (DataW H) → Nat
  | [] => 0
  | d :: r => uptoBulk d + uptoBulkAll r
def uptoBulkEntries {H : Type} : List (Lit × DataW H) → Nat
  | [] => 0
  | x :: r => uptoBulkEntry x + uptoBulkEntries r
def uptoBulkEntry {H : Type} : Lit × DataW H → Nat
  | (.string bytes, d) => bytes.length + uptoBulk d + 1
  | (_, d) => uptoBulk d + 1
 end
def uptoSmall : (H : Type) → List (DataW H) → Bool := fun _ ds => decide (uptoBulkAll ds ≤ 1048576)
def OpenSpec.upto (s : _root_.Go.ChangeSpec) : _root_.Go.OpenSpec := { _root_.Go.OpenSpec.ofChange s with cond := some uptoSmall }

/-- 'citadellaw18.NotesTurns', WHERE WHAT IT READS IS OF BULK AT MOST 1048576: true; the input reads as it did. -/
def notesTurnsUptoRow : OpenClaim := { program := "ytedbnfdmeigabaagreat", sum := "a0a640b7042f3a4b693f4d2278fcb00dd71fca0cadb7c41319dfd25ece018a60", func := "citadel/citadellaw18.NotesTurns", spec := "notesTurns", unfollowed := true, recurses := true, plainKeys := false, apart := false, narrowed := true }
def NotesTurnsUptoSaid : Prop := notesTurnsUptoRow.holds Tryz.pinned (OpenSpec.upto notesTurnsSpec)

/-- 'citadellaw17.IpcOrder', WHERE WHAT IT READS IS OF BULK AT MOST 1048576: true; the input reads as it did. -/
def ipcOrderUptoRow : OpenClaim := { program := "ytedbnfdmeigabaagreat", sum := "a0a640b7042f3a4b693f4d2278fcb00dd71fca0cadb7c41319dfd25ece018a60", func := "citadel/citadellaw17.IpcOrder", spec := "ipcOrder", unfollowed := true, recurses := true, plainKeys := false, apart := false, narrowed := true }
def IpcOrderUptoSaid : Prop := ipcOrderUptoRow.holds Tryz.pinned (OpenSpec.upto ipcOrderSpec)

/-- 'citadellaw21.InvokeKinds', WHERE WHAT IT READS IS OF BULK AT MOST 1048576: true; the input reads as it did. -/
def invokeKindsUptoRow : OpenClaim := { program := "ytedbnfdmeigabaagreat", sum := "a0a640b7042f3a4b693f4d2278fcb00dd71fca0cadb7c41319dfd25ece018a60", func := "citadel/citadellaw21.InvokeKinds", spec := "invokeKinds", unfollowed := true, recurses := true, plainKeys := false, apart := false, narrowed := true }
def InvokeKindsUptoSaid : Prop := invokeKindsUptoRow.holds Tryz.pinned (OpenSpec.upto invokeKindsSpec)

/-- 'citadellaw21.InvokeLines', WHERE WHAT IT READS IS OF BULK AT MOST 1048576: true; the input reads as it did. -/
def invokeLinesUptoRow : OpenClaim := { program := "ytedbnfdmeigabaagreat", sum := "a0a640b7042f3a4b693f4d2278fcb00dd71fca0cadb7c41319dfd25ece018a60", func := "citadel/citadellaw21.InvokeLines", spec := "invokeLines", unfollowed := true, recurses := true, plainKeys := false, apart := false, narrowed := true }
def InvokeLinesUptoSaid : Prop := invokeLinesUptoRow.holds Tryz.pinned (OpenSpec.upto invokeLinesSpec)

end Rows
end Go.Proofs.YtedbnfdmeigabaaGreat
