/-
  No cell of these rows narrows 'for every input' (looked for: loops, veiled, ifaces, maps, wideKeys, modest, calm, conditions, laid).
  DERIVED. THE GIVEN ROWS OF THIS SEAT. 5 by the template 'for every input the law returns true; each argument reads behind the call as it read before'; 0 by the template 'total and deterministic' (their statements: YtkecfebodpkamaaGreatTotals.lean).
  GIVEN WITH THE SEED: the statements are not yours to turn. If you find one false, say at which input.
  Laid BY PROGRAM, IN A SANDBOX (cutbox-rows.mjs): the forced cells as the released guide's own fill.sh prints them over the translation a36a2e9cf9080268… (all of the seat's roots in one cut). By AI agents, Wed Nov 11 2026. No macro, syntax, notation, axiom, sorry.
-/
import Derived.Test.YtkecfebodpkamaaGreatChecked
import GoSem.Claim
import GoSem.ClaimJoined
import GoSem.ClaimMapViews
import Derived.JoinedTies
import Derived.KernelRfl
namespace Go.Proofs.YtkecfebodpkamaaGreat
/- THE CELL 'sum', in the pinned program and in every row, IS THE sha256 OF THE DUMP (.gsa) THAT YtkecfebodpkamaaGreatProg.lean LOADS. Nothing in Lean hashes anything: it is a label: what it is worth is what the hold of that sum in a sandbox is worth. -/
noncomputable def Tryz.pinned : Pinned := { name := "ytkecfebodpkamaagreat", sum := "a36a2e9cf908026809b8002d2e3812029d8c324ade0eb3859d532835ea2bcef1", checked := Tryz.checked }
namespace Rows
def none {H : Type} : Left H := { results := [], args := [] }

/-- 'citadellaw14.SchedUrgent': WHATEVER THE INPUT: true; the input reads as it did. -/
def schedUrgentSpec : ChangeSpec := { name := "schedUrgent", fn := fun _ => fun
  | [d1, d2, d3] => { results := [.lit (.bool true)], args := [d1, d2, d3] }
  | _ => none }
def schedUrgentRow : OpenClaim := { program := "ytkecfebodpkamaagreat", sum := "a36a2e9cf908026809b8002d2e3812029d8c324ade0eb3859d532835ea2bcef1", func := "citadel/citadellaw14.SchedUrgent", spec := "schedUrgent", unfollowed := true, recurses := true, apart := false }
def SchedUrgentSaid : Prop := schedUrgentRow.holds Tryz.pinned (OpenSpec.ofChange schedUrgentSpec)

/-- ITS FALSE NEIGHBOUR: 'it returns false'. Refute it at one input. -/
def schedUrgentWrong : ChangeSpec := { name := "schedUrgent", fn := fun _ => fun
  | [d1, d2, d3] => { results := [.lit (.bool false)], args := [d1, d2, d3] }
  | _ => none }
def SchedUrgentWrongFalsely : Prop := schedUrgentRow.holds Tryz.pinned (OpenSpec.ofChange schedUrgentWrong)

/-- 'citadellaw14.SchedStops': WHATEVER THE INPUT: true; the input reads as it did. -/
def schedStopsSpec : ChangeSpec := { name := "schedStops", fn := fun _ => fun
  | [d1, d2] => { results := [.lit (.bool true)], args := [d1, d2] }
  | _ => none }
def schedStopsRow : OpenClaim := { program := "ytkecfebodpkamaagreat", sum := "a36a2e9cf908026809b8002d2e3812029d8c324ade0eb3859d532835ea2bcef1", func := "citadel/citadellaw14.SchedStops", spec := "schedStops", unfollowed := true, recurses := true, apart := false }
def SchedStopsSaid : Prop := schedStopsRow.holds Tryz.pinned (OpenSpec.ofChange schedStopsSpec)

/-- ITS FALSE NEIGHBOUR: 'it returns false'. Refute it at one input. -/
def schedStopsWrong : ChangeSpec := { name := "schedStops", fn := fun _ => fun
  | [d1, d2] => { results := [.lit (.bool false)], args := [d1, d2] }
  | _ => none }
def SchedStopsWrongFalsely : Prop := schedStopsRow.holds Tryz.pinned (OpenSpec.ofChange schedStopsWrong)

/-- 'citadellaw14.SchedHighest': WHATEVER THE INPUT: true; the input reads as it did. -/
def schedHighestSpec : ChangeSpec := { name := "schedHighest", fn := fun _ => fun
  | [d] => { results := [.lit (.bool true)], args := [d] }
  | _ => none }
def schedHighestRow : OpenClaim := { program := "ytkecfebodpkamaagreat", sum := "a36a2e9cf908026809b8002d2e3812029d8c324ade0eb3859d532835ea2bcef1", func := "citadel/citadellaw14.SchedHighest", spec := "schedHighest", unfollowed := true, recurses := true, apart := false }
def SchedHighestSaid : Prop := schedHighestRow.holds Tryz.pinned (OpenSpec.ofChange schedHighestSpec)

/-- ITS FALSE NEIGHBOUR: 'it returns false'. Refute it at one input. -/
def schedHighestWrong : ChangeSpec := { name := "schedHighest", fn := fun _ => fun
  | [d] => { results := [.lit (.bool false)], args := [d] }
  | _ => none }
def SchedHighestWrongFalsely : Prop := schedHighestRow.holds Tryz.pinned (OpenSpec.ofChange schedHighestWrong)

/-- 'citadellaw14.SchedPriority': WHATEVER THE INPUT: true; the input reads as it did. -/
def schedPrioritySpec : ChangeSpec := { name := "schedPriority", fn := fun _ => fun
  | [d1, d2, d3] => { results := [.lit (.bool true)], args := [d1, d2, d3] }
  | _ => none }
def schedPriorityRow : OpenClaim := { program := "ytkecfebodpkamaagreat", sum := "a36a2e9cf908026809b8002d2e3812029d8c324ade0eb3859d532835ea2bcef1", func := "citadel/citadellaw14.SchedPriority", spec := "schedPriority", unfollowed := true, recurses := true, apart := false }
def SchedPrioritySaid : Prop := schedPriorityRow.holds Tryz.pinned (OpenSpec.ofChange schedPrioritySpec)

/-- ITS FALSE NEIGHBOUR: 'it returns false'. Refute it at one input. -/
def schedPriorityWrong : ChangeSpec := { name := "schedPriority", fn := fun _ => fun
  | [d1, d2, d3] => { results := [.lit (.bool false)], args := [d1, d2, d3] }
  | _ => none }
def SchedPriorityWrongFalsely : Prop := schedPriorityRow.holds Tryz.pinned (OpenSpec.ofChange schedPriorityWrong)

/-- 'citadellaw14.SchedPlays': WHATEVER THE INPUT: true; the input reads as it did. -/
def schedPlaysSpec : ChangeSpec := { name := "schedPlays", fn := fun _ => fun
  | [d] => { results := [.lit (.bool true)], args := [d] }
  | _ => none }
def schedPlaysRow : OpenClaim := { program := "ytkecfebodpkamaagreat", sum := "a36a2e9cf908026809b8002d2e3812029d8c324ade0eb3859d532835ea2bcef1", func := "citadel/citadellaw14.SchedPlays", spec := "schedPlays", unfollowed := true, recurses := true, apart := false }
def SchedPlaysSaid : Prop := schedPlaysRow.holds Tryz.pinned (OpenSpec.ofChange schedPlaysSpec)

/-- ITS FALSE NEIGHBOUR: 'it returns false'. Refute it at one input. -/
def schedPlaysWrong : ChangeSpec := { name := "schedPlays", fn := fun _ => fun
  | [d] => { results := [.lit (.bool false)], args := [d] }
  | _ => none }
def SchedPlaysWrongFalsely : Prop := schedPlaysRow.holds Tryz.pinned (OpenSpec.ofChange schedPlaysWrong)

/- THE SECOND FORM. 'bulk': how many values and letters a reading holds, each counted each time it is reached (what is shared counts as often as it is met; a slice's spare places count too). A statement '..UptoSaid' is the law's where the arguments, and the package variables that the reading takes, are together of bulk at most 1048576: NARROWER than '..Said'. Prove '..Said' where nothing that the law and all that it calls make is longer than what came in: it says more and counts as full. Else prove '..UptoSaid'. A law counts once. -/
mutual
def uptoBulk {H : Type} : DataW H → Nat
  | .lit (.string bytes) => bytes.length + 1
  | .lit _ => 1
  | .nil => 1
  | .ptr d => uptoBulk d + 1
  | .slice elems spare => uptoBulkAll elems + uptoBulkAll spare + 1
  | .agg parts => uptoBulkAll parts + 1
  | .iface _ d => uptoBulk d + 1
  | .map entries => uptoBulkEntries entries + 1
  | .held _ => 1
def uptoBulkAll {H : Type} : List (DataW H) → Nat
  | [] => 0
  | d :: r => uptoBulk d + uptoBulkAll r
def uptoBulkEntries {H : Type} : List (Lit × DataW H) → Nat
  | [] => 0
  | x :: r => uptoBulkEntry x + uptoBulkEntries r
def uptoBulkEntry {H : Type} : Lit × DataW H → Nat
  | (.string bytes, d) => bytes.length + uptoBulk d + 1
  | (_, d) => uptoBulk d + 1
 end
def uptoSmall : (H : Type) → List (DataW H) → Bool := fun _ ds => decide (uptoBulkAll ds ≤ 1048576)
def OpenSpec.upto (s : _root_.Go.ChangeSpec) : _root_.Go.OpenSpec := { _root_.Go.OpenSpec.ofChange s with cond := some uptoSmall }

/-- 'citadellaw14.SchedUrgent', WHERE WHAT IT READS IS OF BULK AT MOST 1048576: true; the input reads as it did. -/
def schedUrgentUptoRow : OpenClaim := { program := "ytkecfebodpkamaagreat", sum := "a36a2e9cf908026809b8002d2e3812029d8c324ade0eb3859d532835ea2bcef1", func := "citadel/citadellaw14.SchedUrgent", spec := "schedUrgent", unfollowed := true, recurses := true, apart := false, narrowed := true }
def SchedUrgentUptoSaid : Prop := schedUrgentUptoRow.holds Tryz.pinned (OpenSpec.upto schedUrgentSpec)

/-- 'citadellaw14.SchedStops', WHERE WHAT IT READS IS OF BULK AT MOST 1048576: true; the input reads as it did. -/
def schedStopsUptoRow : OpenClaim := { program := "ytkecfebodpkamaagreat", sum := "a36a2e9cf908026809b8002d2e3812029d8c324ade0eb3859d532835ea2bcef1", func := "citadel/citadellaw14.SchedStops", spec := "schedStops", unfollowed := true, recurses := true, apart := false, narrowed := true }
def SchedStopsUptoSaid : Prop := schedStopsUptoRow.holds Tryz.pinned (OpenSpec.upto schedStopsSpec)

/-- 'citadellaw14.SchedHighest', WHERE WHAT IT READS IS OF BULK AT MOST 1048576: true; the input reads as it did. -/
def schedHighestUptoRow : OpenClaim := { program := "ytkecfebodpkamaagreat", sum := "a36a2e9cf908026809b8002d2e3812029d8c324ade0eb3859d532835ea2bcef1", func := "citadel/citadellaw14.SchedHighest", spec := "schedHighest", unfollowed := true, recurses := true, apart := false, narrowed := true }
def SchedHighestUptoSaid : Prop := schedHighestUptoRow.holds Tryz.pinned (OpenSpec.upto schedHighestSpec)

/-- 'citadellaw14.SchedPriority', WHERE WHAT IT READS IS OF BULK AT MOST 1048576: true; the input reads as it did. -/
def schedPriorityUptoRow : OpenClaim := { program := "ytkecfebodpkamaagreat", sum := "a36a2e9cf908026809b8002d2e3812029d8c324ade0eb3859d532835ea2bcef1", func := "citadel/citadellaw14.SchedPriority", spec := "schedPriority", unfollowed := true, recurses := true, apart := false, narrowed := true }
def SchedPriorityUptoSaid : Prop := schedPriorityUptoRow.holds Tryz.pinned (OpenSpec.upto schedPrioritySpec)

/-- 'citadellaw14.SchedPlays', WHERE WHAT IT READS IS OF BULK AT MOST 1048576: true; the input reads as it did. -/
def schedPlaysUptoRow : OpenClaim := { program := "ytkecfebodpkamaagreat", sum := "a36a2e9cf908026809b8002d2e3812029d8c324ade0eb3859d532835ea2bcef1", func := "citadel/citadellaw14.SchedPlays", spec := "schedPlays", unfollowed := true, recurses := true, apart := false, narrowed := true }
def SchedPlaysUptoSaid : Prop := schedPlaysUptoRow.holds Tryz.pinned (OpenSpec.upto schedPlaysSpec)

end Rows
end Go.Proofs.YtkecfebodpkamaaGreat
