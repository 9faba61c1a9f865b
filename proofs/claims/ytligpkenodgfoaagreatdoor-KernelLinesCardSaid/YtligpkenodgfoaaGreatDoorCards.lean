/-
  DERIVED. GIVEN WITH THE SEED: THE CARDS: each row of YtligpkenodgfoaaGreatDoorRows.lean that lists a variable, with what it lists TIED to the program's text (the seventh form; the later family's looks); each row that meets fmt, with fmt's text TOLD by the authors' own Lean function (tested against real Go, not proved from fmt's source: count such statements apart). THE CARD IS WHAT COUNTS. Prove the row's statement (the work); the ties are given (YtligpkenodgfoaaGreatDoorTie.lean); close each card by the builder's one call (the guide's Derived/Test/ToyasCard.lean, 'card_holds'). Laid BY PROGRAM, IN A SANDBOX (cutbox-door.mjs). By AI agents, Wed Nov 11 2026. No macro, syntax, notation, axiom, sorry.
-/
import Derived.Test.YtligpkenodgfoaaGreatDoorRows
import GoSem.ClaimSeven
namespace Go.Proofs.YtligpkenodgfoaaGreatDoor
namespace Rows

/-- THE TIED CARD OF 'citadellaw23.KernelTurns'. -/
def kernelTurnsCard : Claim7 := { stood := { row := kernelTurnsRow, standIns := [], harness := (true, "09c008ab6c96c1ea78d063b6eb4e3f3611187f54b2054b40414cb01239e71a95"), looks := false }, kinds := [], alts := [], laidByText := true, laidKinds := [.data], laidTests := true, laidLooks := .later }
def KernelTurnsCardSaid : Prop := Claim7.holds Tryz.pinned (.plain (OpenSpec.ofChange kernelTurnsSpec)) kernelTurnsCard

/-- THE TIED CARD OF 'citadellaw23.KernelUnknown'. -/
def kernelUnknownCard : Claim7 := { stood := { row := kernelUnknownRow, standIns := [], harness := (true, "09c008ab6c96c1ea78d063b6eb4e3f3611187f54b2054b40414cb01239e71a95"), looks := false }, kinds := [], alts := [], laidByText := true, laidKinds := [.data], laidTests := true, laidLooks := .later }
def KernelUnknownCardSaid : Prop := Claim7.holds Tryz.pinned (.plain (OpenSpec.ofChange kernelUnknownSpec)) kernelUnknownCard

/-- THE TIED CARD OF 'citadellaw23.KernelLines'. -/
def kernelLinesCard : Claim7 := { stood := { row := kernelLinesRow, standIns := [], harness := (true, "09c008ab6c96c1ea78d063b6eb4e3f3611187f54b2054b40414cb01239e71a95"), looks := false }, kinds := [], alts := [], laidByText := true, laidKinds := [.data], laidTests := true, laidLooks := .later }
def KernelLinesCardSaid : Prop := Claim7.holds Tryz.pinned (.plain (OpenSpec.ofChange kernelLinesSpec)) kernelLinesCard

/-- THE TIED CARD OF 'citadellaw23.KernelIdle'. -/
def kernelIdleCard : Claim7 := { stood := { row := kernelIdleRow, standIns := [], harness := (true, "09c008ab6c96c1ea78d063b6eb4e3f3611187f54b2054b40414cb01239e71a95"), looks := false }, kinds := [], alts := [], laidByText := true, laidKinds := [.data], laidTests := true, laidLooks := .later }
def KernelIdleCardSaid : Prop := Claim7.holds Tryz.pinned (.plain (OpenSpec.ofChange kernelIdleSpec)) kernelIdleCard

/-- THE SECOND FORM's CARD OF 'citadellaw23.KernelTurns'. -/
def kernelTurnsUptoCard : Claim7 := { stood := { row := kernelTurnsUptoRow, standIns := [], harness := (true, "09c008ab6c96c1ea78d063b6eb4e3f3611187f54b2054b40414cb01239e71a95"), looks := false }, kinds := [], alts := [], laidByText := true, laidKinds := [.data], laidTests := true, laidLooks := .later }
def KernelTurnsUptoCardSaid : Prop := Claim7.holds Tryz.pinned (.plain (OpenSpec.upto kernelTurnsSpec)) kernelTurnsUptoCard

/-- THE SECOND FORM's CARD OF 'citadellaw23.KernelUnknown'. -/
def kernelUnknownUptoCard : Claim7 := { stood := { row := kernelUnknownUptoRow, standIns := [], harness := (true, "09c008ab6c96c1ea78d063b6eb4e3f3611187f54b2054b40414cb01239e71a95"), looks := false }, kinds := [], alts := [], laidByText := true, laidKinds := [.data], laidTests := true, laidLooks := .later }
def KernelUnknownUptoCardSaid : Prop := Claim7.holds Tryz.pinned (.plain (OpenSpec.upto kernelUnknownSpec)) kernelUnknownUptoCard

/-- THE SECOND FORM's CARD OF 'citadellaw23.KernelLines'. -/
def kernelLinesUptoCard : Claim7 := { stood := { row := kernelLinesUptoRow, standIns := [], harness := (true, "09c008ab6c96c1ea78d063b6eb4e3f3611187f54b2054b40414cb01239e71a95"), looks := false }, kinds := [], alts := [], laidByText := true, laidKinds := [.data], laidTests := true, laidLooks := .later }
def KernelLinesUptoCardSaid : Prop := Claim7.holds Tryz.pinned (.plain (OpenSpec.upto kernelLinesSpec)) kernelLinesUptoCard

/-- THE SECOND FORM's CARD OF 'citadellaw23.KernelIdle'. -/
def kernelIdleUptoCard : Claim7 := { stood := { row := kernelIdleUptoRow, standIns := [], harness := (true, "09c008ab6c96c1ea78d063b6eb4e3f3611187f54b2054b40414cb01239e71a95"), looks := false }, kinds := [], alts := [], laidByText := true, laidKinds := [.data], laidTests := true, laidLooks := .later }
def KernelIdleUptoCardSaid : Prop := Claim7.holds Tryz.pinned (.plain (OpenSpec.upto kernelIdleSpec)) kernelIdleUptoCard
end Rows
end Go.Proofs.YtligpkenodgfoaaGreatDoor
