/-
  No cell of these rows narrows 'for every input' (looked for: loops, veiled, ifaces, maps, wideKeys, modest, calm, conditions, laid).
  DERIVED. THE GIVEN ROWS OF THIS SEAT. 5 by the template 'for every input the law returns true; each argument reads behind the call as it read before'; 0 by the template 'total and deterministic' (their statements: YtgaelfnoffejgaaTotals.lean).
  GIVEN WITH THE SEED: the statements are not yours to turn. If you find one false, say at which input.
  Laid BY PROGRAM, IN A SANDBOX (cutbox-rows.mjs): the forced cells as the released guide's own fill.sh prints them over the translation c43b0768f362e3a0… (all of the seat's roots in one cut). By AI agents, Wed Nov 11 2026. No macro, syntax, notation, axiom, sorry.
-/
import Derived.Test.YtgaelfnoffejgaaChecked
import GoSem.Claim
import GoSem.ClaimJoined
import GoSem.ClaimMapViews
import Derived.JoinedTies
import Derived.KernelRfl
namespace Go.Proofs.Ytgaelfnoffejgaa
/- THE CELL 'sum', in the pinned program and in every row, IS THE sha256 OF THE DUMP (.gsa) THAT YtgaelfnoffejgaaProg.lean LOADS. Nothing in Lean hashes anything: it is a label: what it is worth is what the hold of that sum in a sandbox is worth. -/
noncomputable def Try.pinned : Pinned := { name := "ytgaelfnoffejgaa", sum := "c43b0768f362e3a054bfabf611d959b652cd27a435c40857f28af73ea1b855f2", checked := Try.checked }
namespace Rows
def none {H : Type} : Left H := { results := [], args := [] }

/-- 'citadellaw13.ReadyOrder': WHATEVER THE INPUT: true; the input reads as it did. -/
def readyOrderSpec : ChangeSpec := { name := "readyOrder", fn := fun _ => fun
  | [d1, d2] => { results := [.lit (.bool true)], args := [d1, d2] }
  | _ => none }
def readyOrderRow : OpenClaim := { program := "ytgaelfnoffejgaa", sum := "c43b0768f362e3a054bfabf611d959b652cd27a435c40857f28af73ea1b855f2", func := "citadel/citadellaw13.ReadyOrder", spec := "readyOrder", unfollowed := true, recurses := true, apart := false }
def ReadyOrderSaid : Prop := readyOrderRow.holds Try.pinned (OpenSpec.ofChange readyOrderSpec)

/-- ITS FALSE NEIGHBOUR: 'it returns false'. Refute it at one input. -/
def readyOrderWrong : ChangeSpec := { name := "readyOrder", fn := fun _ => fun
  | [d1, d2] => { results := [.lit (.bool false)], args := [d1, d2] }
  | _ => none }
def ReadyOrderWrongFalsely : Prop := readyOrderRow.holds Try.pinned (OpenSpec.ofChange readyOrderWrong)

/-- 'citadellaw13.ReadyRound': WHATEVER THE INPUT: true; the input reads as it did. -/
def readyRoundSpec : ChangeSpec := { name := "readyRound", fn := fun _ => fun
  | [d1, d2, d3] => { results := [.lit (.bool true)], args := [d1, d2, d3] }
  | _ => none }
def readyRoundRow : OpenClaim := { program := "ytgaelfnoffejgaa", sum := "c43b0768f362e3a054bfabf611d959b652cd27a435c40857f28af73ea1b855f2", func := "citadel/citadellaw13.ReadyRound", spec := "readyRound", unfollowed := true, recurses := true, apart := false }
def ReadyRoundSaid : Prop := readyRoundRow.holds Try.pinned (OpenSpec.ofChange readyRoundSpec)

/-- ITS FALSE NEIGHBOUR: 'it returns false'. Refute it at one input. -/
def readyRoundWrong : ChangeSpec := { name := "readyRound", fn := fun _ => fun
  | [d1, d2, d3] => { results := [.lit (.bool false)], args := [d1, d2, d3] }
  | _ => none }
def ReadyRoundWrongFalsely : Prop := readyRoundRow.holds Try.pinned (OpenSpec.ofChange readyRoundWrong)

/-- 'citadellaw13.ReadyBack': WHATEVER THE INPUT: true; the input reads as it did. -/
def readyBackSpec : ChangeSpec := { name := "readyBack", fn := fun _ => fun
  | [d] => { results := [.lit (.bool true)], args := [d] }
  | _ => none }
def readyBackRow : OpenClaim := { program := "ytgaelfnoffejgaa", sum := "c43b0768f362e3a054bfabf611d959b652cd27a435c40857f28af73ea1b855f2", func := "citadel/citadellaw13.ReadyBack", spec := "readyBack", unfollowed := true, recurses := true, apart := false }
def ReadyBackSaid : Prop := readyBackRow.holds Try.pinned (OpenSpec.ofChange readyBackSpec)

/-- ITS FALSE NEIGHBOUR: 'it returns false'. Refute it at one input. -/
def readyBackWrong : ChangeSpec := { name := "readyBack", fn := fun _ => fun
  | [d] => { results := [.lit (.bool false)], args := [d] }
  | _ => none }
def ReadyBackWrongFalsely : Prop := readyBackRow.holds Try.pinned (OpenSpec.ofChange readyBackWrong)

/-- 'citadellaw13.ReadyPlays': WHATEVER THE INPUT: true; the input reads as it did. -/
def readyPlaysSpec : ChangeSpec := { name := "readyPlays", fn := fun _ => fun
  | [d1, d2] => { results := [.lit (.bool true)], args := [d1, d2] }
  | _ => none }
def readyPlaysRow : OpenClaim := { program := "ytgaelfnoffejgaa", sum := "c43b0768f362e3a054bfabf611d959b652cd27a435c40857f28af73ea1b855f2", func := "citadel/citadellaw13.ReadyPlays", spec := "readyPlays", unfollowed := true, recurses := true, apart := false }
def ReadyPlaysSaid : Prop := readyPlaysRow.holds Try.pinned (OpenSpec.ofChange readyPlaysSpec)

/-- ITS FALSE NEIGHBOUR: 'it returns false'. Refute it at one input. -/
def readyPlaysWrong : ChangeSpec := { name := "readyPlays", fn := fun _ => fun
  | [d1, d2] => { results := [.lit (.bool false)], args := [d1, d2] }
  | _ => none }
def ReadyPlaysWrongFalsely : Prop := readyPlaysRow.holds Try.pinned (OpenSpec.ofChange readyPlaysWrong)

/-- 'citadellaw13.ReadyEnds': WHATEVER THE INPUT: true; the input reads as it did. -/
def readyEndsSpec : ChangeSpec := { name := "readyEnds", fn := fun _ => fun
  | [d1, d2, d3] => { results := [.lit (.bool true)], args := [d1, d2, d3] }
  | _ => none }
def readyEndsRow : OpenClaim := { program := "ytgaelfnoffejgaa", sum := "c43b0768f362e3a054bfabf611d959b652cd27a435c40857f28af73ea1b855f2", func := "citadel/citadellaw13.ReadyEnds", spec := "readyEnds", unfollowed := true, recurses := true, apart := false }
def ReadyEndsSaid : Prop := readyEndsRow.holds Try.pinned (OpenSpec.ofChange readyEndsSpec)

/-- ITS FALSE NEIGHBOUR: 'it returns false'. Refute it at one input. -/
def readyEndsWrong : ChangeSpec := { name := "readyEnds", fn := fun _ => fun
  | [d1, d2, d3] => { results := [.lit (.bool false)], args := [d1, d2, d3] }
  | _ => none }
def ReadyEndsWrongFalsely : Prop := readyEndsRow.holds Try.pinned (OpenSpec.ofChange readyEndsWrong)

/- THE SECOND FORM. 'bulk': how many values and letters a reading holds, each counted each time it is reached (what is shared counts as often as it is met; a slice's spare places count too). A statement '..UptoSaid' is the law's where the arguments, and the package variables that the reading takes, are together of bulk at most 1048576: NARROWER than '..Said'. Prove '..Said' where nothing that the law and all that it calls make is longer than what came in: it says more and counts as full. Else prove '..UptoSaid'. A law counts once. -/
mutual
def uptoBulk {H : Type} : DataW H → Nat
  | .lit (.string bytes) => bytes.length + 1
  | .lit _ => 1
  | .nil => 1
  | .ptr d => uptoBulk d + 1
  | .slice elems spare => uptoBulkAll elems + uptoBulkAll spare + 1
  | .agg parts => uptoBulkAll parts + 1
  | .iface _ d => uptoBulk d + 1
  | .map entries => uptoBulkEntries entries + 1
  | .held _ => 1
def uptoBulkAll {H : Type} : List (DataW H) → Nat
  | [] => 0
  | d :: r => uptoBulk d + uptoBulkAll r
def uptoBulkEntries {H : Type} : List (Lit × DataW H) → Nat
  | [] => 0
  | x :: r => uptoBulkEntry x + uptoBulkEntries r
def uptoBulkEntry {H : Type} : Lit × DataW H → Nat
  | (.string bytes, d) => bytes.length + uptoBulk d + 1
  | (_, d) => uptoBulk d + 1
 end
def uptoSmall : (H : Type) → List (DataW H) → Bool := fun _ ds => decide (uptoBulkAll ds ≤ 1048576)
def OpenSpec.upto (s : _root_.Go.ChangeSpec) : _root_.Go.OpenSpec := { _root_.Go.OpenSpec.ofChange s with cond := some uptoSmall }

/-- 'citadellaw13.ReadyOrder', WHERE WHAT IT READS IS OF BULK AT MOST 1048576: true; the input reads as it did. -/
def readyOrderUptoRow : OpenClaim := { program := "ytgaelfnoffejgaa", sum := "c43b0768f362e3a054bfabf611d959b652cd27a435c40857f28af73ea1b855f2", func := "citadel/citadellaw13.ReadyOrder", spec := "readyOrder", unfollowed := true, recurses := true, apart := false, narrowed := true }
def ReadyOrderUptoSaid : Prop := readyOrderUptoRow.holds Try.pinned (OpenSpec.upto readyOrderSpec)

/-- 'citadellaw13.ReadyRound', WHERE WHAT IT READS IS OF BULK AT MOST 1048576: true; the input reads as it did. -/
def readyRoundUptoRow : OpenClaim := { program := "ytgaelfnoffejgaa", sum := "c43b0768f362e3a054bfabf611d959b652cd27a435c40857f28af73ea1b855f2", func := "citadel/citadellaw13.ReadyRound", spec := "readyRound", unfollowed := true, recurses := true, apart := false, narrowed := true }
def ReadyRoundUptoSaid : Prop := readyRoundUptoRow.holds Try.pinned (OpenSpec.upto readyRoundSpec)

/-- 'citadellaw13.ReadyBack', WHERE WHAT IT READS IS OF BULK AT MOST 1048576: true; the input reads as it did. -/
def readyBackUptoRow : OpenClaim := { program := "ytgaelfnoffejgaa", sum := "c43b0768f362e3a054bfabf611d959b652cd27a435c40857f28af73ea1b855f2", func := "citadel/citadellaw13.ReadyBack", spec := "readyBack", unfollowed := true, recurses := true, apart := false, narrowed := true }
def ReadyBackUptoSaid : Prop := readyBackUptoRow.holds Try.pinned (OpenSpec.upto readyBackSpec)

/-- 'citadellaw13.ReadyPlays', WHERE WHAT IT READS IS OF BULK AT MOST 1048576: true; the input reads as it did. -/
def readyPlaysUptoRow : OpenClaim := { program := "ytgaelfnoffejgaa", sum := "c43b0768f362e3a054bfabf611d959b652cd27a435c40857f28af73ea1b855f2", func := "citadel/citadellaw13.ReadyPlays", spec := "readyPlays", unfollowed := true, recurses := true, apart := false, narrowed := true }
def ReadyPlaysUptoSaid : Prop := readyPlaysUptoRow.holds Try.pinned (OpenSpec.upto readyPlaysSpec)

/-- 'citadellaw13.ReadyEnds', WHERE WHAT IT READS IS OF BULK AT MOST 1048576: true; the input reads as it did. -/
def readyEndsUptoRow : OpenClaim := { program := "ytgaelfnoffejgaa", sum := "c43b0768f362e3a054bfabf611d959b652cd27a435c40857f28af73ea1b855f2", func := "citadel/citadellaw13.ReadyEnds", spec := "readyEnds", unfollowed := true, recurses := true, apart := false, narrowed := true }
def ReadyEndsUptoSaid : Prop := readyEndsUptoRow.holds Try.pinned (OpenSpec.upto readyEndsSpec)

end Rows
end Go.Proofs.Ytgaelfnoffejgaa
