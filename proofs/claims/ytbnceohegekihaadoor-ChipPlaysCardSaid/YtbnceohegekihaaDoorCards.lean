/-
  DERIVED. GIVEN WITH THE SEED: THE CARDS: each row of YtbnceohegekihaaDoorRows.lean that lists a variable, with what it lists TIED to the program's text (the seventh form; the later family's looks); each row that meets fmt, with fmt's text TOLD by the authors' own Lean function (tested against real Go, not proved from fmt's source: count such statements apart). THE CARD IS WHAT COUNTS. Prove the row's statement (the work); the ties are given (YtbnceohegekihaaDoorTie.lean); close each card by the builder's one call (the guide's Derived/Test/ToyasCard.lean, 'card_holds'). Laid BY PROGRAM, IN A SANDBOX (cutbox-door.mjs). By AI agents, Wed Nov 11 2026. No macro, syntax, notation, axiom, sorry.
-/
import Derived.Test.YtbnceohegekihaaDoorRows
import GoSem.ClaimSeven
namespace Go.Proofs.YtbnceohegekihaaDoor
namespace Rows

/-- THE TIED CARD OF 'citadellaw03.ChipOften'. -/
def chipOftenCard : Claim7 := { stood := { row := chipOftenRow, standIns := [], harness := (true, "62f5114bf6a359e4910083cfa6941f2795b567c55ef6d28cab54be7da73af769"), looks := false }, kinds := [], alts := [], laidByText := true, laidKinds := [.data], laidTests := true, laidLooks := .later }
def ChipOftenCardSaid : Prop := Claim7.holds Tryd.pinned (.plain (OpenSpec.ofChange chipOftenSpec)) chipOftenCard

/-- THE TIED CARD OF 'citadellaw03.ChipServes'. -/
def chipServesCard : Claim7 := { stood := { row := chipServesRow, standIns := [], harness := (true, "62f5114bf6a359e4910083cfa6941f2795b567c55ef6d28cab54be7da73af769"), looks := false }, kinds := [], alts := [], laidByText := true, laidKinds := [.data], laidTests := true, laidLooks := .later }
def ChipServesCardSaid : Prop := Claim7.holds Tryd.pinned (.plain (OpenSpec.ofChange chipServesSpec)) chipServesCard

/-- THE TIED CARD OF 'citadellaw03.ChipWord'. -/
def chipWordCard : Claim7 := { stood := { row := chipWordRow, standIns := [], harness := (true, "62f5114bf6a359e4910083cfa6941f2795b567c55ef6d28cab54be7da73af769"), looks := false }, kinds := [], alts := [], laidByText := true, laidKinds := [.data], laidTests := true, laidLooks := .later }
def ChipWordCardSaid : Prop := Claim7.holds Tryd.pinned (.plain (OpenSpec.ofChange chipWordSpec)) chipWordCard

/-- THE TIED CARD OF 'citadellaw03.ChipPlays'. -/
def chipPlaysCard : Claim7 := { stood := { row := chipPlaysRow, standIns := [], harness := (true, "62f5114bf6a359e4910083cfa6941f2795b567c55ef6d28cab54be7da73af769"), looks := false }, kinds := [], alts := [], laidByText := true, laidKinds := [.data], laidTests := true, laidLooks := .later }
def ChipPlaysCardSaid : Prop := Claim7.holds Tryd.pinned (.plain (OpenSpec.ofChange chipPlaysSpec)) chipPlaysCard

/-- THE SECOND FORM's CARD OF 'citadellaw03.ChipOften'. -/
def chipOftenUptoCard : Claim7 := { stood := { row := chipOftenUptoRow, standIns := [], harness := (true, "62f5114bf6a359e4910083cfa6941f2795b567c55ef6d28cab54be7da73af769"), looks := false }, kinds := [], alts := [], laidByText := true, laidKinds := [.data], laidTests := true, laidLooks := .later }
def ChipOftenUptoCardSaid : Prop := Claim7.holds Tryd.pinned (.plain (OpenSpec.upto chipOftenSpec)) chipOftenUptoCard

/-- THE SECOND FORM's CARD OF 'citadellaw03.ChipServes'. -/
def chipServesUptoCard : Claim7 := { stood := { row := chipServesUptoRow, standIns := [], harness := (true, "62f5114bf6a359e4910083cfa6941f2795b567c55ef6d28cab54be7da73af769"), looks := false }, kinds := [], alts := [], laidByText := true, laidKinds := [.data], laidTests := true, laidLooks := .later }
def ChipServesUptoCardSaid : Prop := Claim7.holds Tryd.pinned (.plain (OpenSpec.upto chipServesSpec)) chipServesUptoCard

/-- THE SECOND FORM's CARD OF 'citadellaw03.ChipWord'. -/
def chipWordUptoCard : Claim7 := { stood := { row := chipWordUptoRow, standIns := [], harness := (true, "62f5114bf6a359e4910083cfa6941f2795b567c55ef6d28cab54be7da73af769"), looks := false }, kinds := [], alts := [], laidByText := true, laidKinds := [.data], laidTests := true, laidLooks := .later }
def ChipWordUptoCardSaid : Prop := Claim7.holds Tryd.pinned (.plain (OpenSpec.upto chipWordSpec)) chipWordUptoCard

/-- THE SECOND FORM's CARD OF 'citadellaw03.ChipPlays'. -/
def chipPlaysUptoCard : Claim7 := { stood := { row := chipPlaysUptoRow, standIns := [], harness := (true, "62f5114bf6a359e4910083cfa6941f2795b567c55ef6d28cab54be7da73af769"), looks := false }, kinds := [], alts := [], laidByText := true, laidKinds := [.data], laidTests := true, laidLooks := .later }
def ChipPlaysUptoCardSaid : Prop := Claim7.holds Tryd.pinned (.plain (OpenSpec.upto chipPlaysSpec)) chipPlaysUptoCard
end Rows
end Go.Proofs.YtbnceohegekihaaDoor
