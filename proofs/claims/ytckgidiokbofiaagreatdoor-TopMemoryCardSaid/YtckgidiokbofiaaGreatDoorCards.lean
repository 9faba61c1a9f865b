/-
  DERIVED. GIVEN WITH THE SEED: THE CARDS: each row of YtckgidiokbofiaaGreatDoorRows.lean that lists a variable, with what it lists TIED to the program's text (the seventh form; the later family's looks); each row that meets fmt, with fmt's text TOLD by the authors' own Lean function (tested against real Go, not proved from fmt's source: count such statements apart). THE CARD IS WHAT COUNTS. Prove the row's statement (the work); the ties are given (YtckgidiokbofiaaGreatDoorTie.lean); close each card by the builder's one call (the guide's Derived/Test/ToyasCard.lean, 'card_holds'). Laid BY PROGRAM, IN A SANDBOX (cutbox-door.mjs). By AI agents, Wed Nov 11 2026. No macro, syntax, notation, axiom, sorry.
-/
import Derived.Test.YtckgidiokbofiaaGreatDoorRows
import GoSem.ClaimSeven
namespace Go.Proofs.YtckgidiokbofiaaGreatDoor
namespace Rows

/-- THE TIED CARD OF 'citadeltop.TopMemory'. -/
def topMemoryCard : Claim7 := { stood := { row := topMemoryRow, standIns := [], harness := (true, "bf5256dd63b930ef2da53d07e22cc420c4f0bf74126901fce87806175cbaaeff"), looks := false }, kinds := [], alts := [], laidByText := true, laidKinds := [.data], laidTests := true, laidLooks := .later }
def TopMemoryCardSaid : Prop := Claim7.holds Tryz.pinned (.plain (OpenSpec.ofChange topMemorySpec)) topMemoryCard

/-- THE TIED CARD OF 'citadeltop.TopRecycle'. -/
def topRecycleCard : Claim7 := { stood := { row := topRecycleRow, standIns := [], harness := (true, "bf5256dd63b930ef2da53d07e22cc420c4f0bf74126901fce87806175cbaaeff"), looks := false }, kinds := [], alts := [], laidByText := true, laidKinds := [.data], laidTests := true, laidLooks := .later }
def TopRecycleCardSaid : Prop := Claim7.holds Tryz.pinned (.plain (OpenSpec.ofChange topRecycleSpec)) topRecycleCard

/-- THE TIED CARD OF 'citadeltop.TopParts'. -/
def topPartsCard : Claim7 := { stood := { row := topPartsRow, standIns := [], harness := (true, "bf5256dd63b930ef2da53d07e22cc420c4f0bf74126901fce87806175cbaaeff"), looks := false }, kinds := [], alts := [], laidByText := true, laidKinds := [.data], laidTests := true, laidLooks := .later }
def TopPartsCardSaid : Prop := Claim7.holds Tryz.pinned (.plain (OpenSpec.ofChange topPartsSpec)) topPartsCard

/-- THE SECOND FORM's CARD OF 'citadeltop.TopMemory'. -/
def topMemoryUptoCard : Claim7 := { stood := { row := topMemoryUptoRow, standIns := [], harness := (true, "bf5256dd63b930ef2da53d07e22cc420c4f0bf74126901fce87806175cbaaeff"), looks := false }, kinds := [], alts := [], laidByText := true, laidKinds := [.data], laidTests := true, laidLooks := .later }
def TopMemoryUptoCardSaid : Prop := Claim7.holds Tryz.pinned (.plain (OpenSpec.upto topMemorySpec)) topMemoryUptoCard

/-- THE SECOND FORM's CARD OF 'citadeltop.TopRecycle'. -/
def topRecycleUptoCard : Claim7 := { stood := { row := topRecycleUptoRow, standIns := [], harness := (true, "bf5256dd63b930ef2da53d07e22cc420c4f0bf74126901fce87806175cbaaeff"), looks := false }, kinds := [], alts := [], laidByText := true, laidKinds := [.data], laidTests := true, laidLooks := .later }
def TopRecycleUptoCardSaid : Prop := Claim7.holds Tryz.pinned (.plain (OpenSpec.upto topRecycleSpec)) topRecycleUptoCard

/-- THE SECOND FORM's CARD OF 'citadeltop.TopParts'. -/
def topPartsUptoCard : Claim7 := { stood := { row := topPartsUptoRow, standIns := [], harness := (true, "bf5256dd63b930ef2da53d07e22cc420c4f0bf74126901fce87806175cbaaeff"), looks := false }, kinds := [], alts := [], laidByText := true, laidKinds := [.data], laidTests := true, laidLooks := .later }
def TopPartsUptoCardSaid : Prop := Claim7.holds Tryz.pinned (.plain (OpenSpec.upto topPartsSpec)) topPartsUptoCard
end Rows
end Go.Proofs.YtckgidiokbofiaaGreatDoor
