/-
  DERIVED. GIVEN WITH THE SEED: THE CARDS: each row of YtcohamkngfehlaaGreatDoorRows.lean that lists a variable, with what it lists TIED to the program's text (the seventh form; the later family's looks); each row that meets fmt, with fmt's text TOLD by the authors' own Lean function (tested against real Go, not proved from fmt's source: count such statements apart). THE CARD IS WHAT COUNTS. Prove the row's statement (the work); the ties are given (YtcohamkngfehlaaGreatDoorTie.lean); close each card by the builder's one call (the guide's Derived/Test/ToyasCard.lean, 'card_holds'). Laid BY PROGRAM, IN A SANDBOX (cutbox-door.mjs). By AI agents, Wed Nov 11 2026. No macro, syntax, notation, axiom, sorry.
-/
import Derived.Test.YtcohamkngfehlaaGreatDoorRows
import GoSem.ClaimSeven
namespace Go.Proofs.YtcohamkngfehlaaGreatDoor
namespace Rows

/-- THE TIED CARD OF 'citadeltop.TopPages'. -/
def topPagesCard : Claim7 := { stood := { row := topPagesRow, standIns := [], harness := (true, "aaf69617db32a40d72e5b31543e817a21410ec31e9d82b95d48803e8097a42f2"), looks := false }, kinds := [], alts := [], laidByText := true, laidKinds := [.data], laidTests := true, laidLooks := .later }
def TopPagesCardSaid : Prop := Claim7.holds Tryz.pinned (.plain (OpenSpec.ofChange topPagesSpec)) topPagesCard

/-- THE TIED CARD OF 'citadeltop.TopWords'. -/
def topWordsCard : Claim7 := { stood := { row := topWordsRow, standIns := [], harness := (true, "aaf69617db32a40d72e5b31543e817a21410ec31e9d82b95d48803e8097a42f2"), looks := false }, kinds := [], alts := [], laidByText := true, laidKinds := [.data], laidTests := true, laidLooks := .later }
def TopWordsCardSaid : Prop := Claim7.holds Tryz.pinned (.plain (OpenSpec.ofChange topWordsSpec)) topWordsCard

/-- THE TIED CARD OF 'citadeltop.TopCalls'. -/
def topCallsCard : Claim7 := { stood := { row := topCallsRow, standIns := [], harness := (true, "aaf69617db32a40d72e5b31543e817a21410ec31e9d82b95d48803e8097a42f2"), looks := false }, kinds := [], alts := [], laidByText := true, laidKinds := [.data], laidTests := true, laidLooks := .later }
def TopCallsCardSaid : Prop := Claim7.holds Tryz.pinned (.plain (OpenSpec.ofChange topCallsSpec)) topCallsCard

/-- THE TIED CARD OF 'citadeltop.TopFaults'. -/
def topFaultsCard : Claim7 := { stood := { row := topFaultsRow, standIns := [], harness := (true, "aaf69617db32a40d72e5b31543e817a21410ec31e9d82b95d48803e8097a42f2"), looks := false }, kinds := [], alts := [], laidByText := true, laidKinds := [.data], laidTests := true, laidLooks := .later }
def TopFaultsCardSaid : Prop := Claim7.holds Tryz.pinned (.plain (OpenSpec.ofChange topFaultsSpec)) topFaultsCard

/-- THE TIED CARD OF 'citadeltop.TopUndo'. -/
def topUndoCard : Claim7 := { stood := { row := topUndoRow, standIns := [], harness := (true, "aaf69617db32a40d72e5b31543e817a21410ec31e9d82b95d48803e8097a42f2"), looks := false }, kinds := [], alts := [], laidByText := true, laidKinds := [.data], laidTests := true, laidLooks := .later }
def TopUndoCardSaid : Prop := Claim7.holds Tryz.pinned (.plain (OpenSpec.ofChange topUndoSpec)) topUndoCard

/-- THE TIED CARD OF 'citadeltop.TopHandOut'. -/
def topHandOutCard : Claim7 := { stood := { row := topHandOutRow, standIns := [], harness := (true, "aaf69617db32a40d72e5b31543e817a21410ec31e9d82b95d48803e8097a42f2"), looks := false }, kinds := [], alts := [], laidByText := true, laidKinds := [.data], laidTests := true, laidLooks := .later }
def TopHandOutCardSaid : Prop := Claim7.holds Tryz.pinned (.plain (OpenSpec.ofChange topHandOutSpec)) topHandOutCard

/-- THE SECOND FORM's CARD OF 'citadeltop.TopPages'. -/
def topPagesUptoCard : Claim7 := { stood := { row := topPagesUptoRow, standIns := [], harness := (true, "aaf69617db32a40d72e5b31543e817a21410ec31e9d82b95d48803e8097a42f2"), looks := false }, kinds := [], alts := [], laidByText := true, laidKinds := [.data], laidTests := true, laidLooks := .later }
def TopPagesUptoCardSaid : Prop := Claim7.holds Tryz.pinned (.plain (OpenSpec.upto topPagesSpec)) topPagesUptoCard

/-- THE SECOND FORM's CARD OF 'citadeltop.TopWords'. -/
def topWordsUptoCard : Claim7 := { stood := { row := topWordsUptoRow, standIns := [], harness := (true, "aaf69617db32a40d72e5b31543e817a21410ec31e9d82b95d48803e8097a42f2"), looks := false }, kinds := [], alts := [], laidByText := true, laidKinds := [.data], laidTests := true, laidLooks := .later }
def TopWordsUptoCardSaid : Prop := Claim7.holds Tryz.pinned (.plain (OpenSpec.upto topWordsSpec)) topWordsUptoCard

/-- THE SECOND FORM's CARD OF 'citadeltop.TopCalls'. -/
def topCallsUptoCard : Claim7 := { stood := { row := topCallsUptoRow, standIns := [], harness := (true, "aaf69617db32a40d72e5b31543e817a21410ec31e9d82b95d48803e8097a42f2"), looks := false }, kinds := [], alts := [], laidByText := true, laidKinds := [.data], laidTests := true, laidLooks := .later }
def TopCallsUptoCardSaid : Prop := Claim7.holds Tryz.pinned (.plain (OpenSpec.upto topCallsSpec)) topCallsUptoCard

/-- THE SECOND FORM's CARD OF 'citadeltop.TopFaults'. -/
def topFaultsUptoCard : Claim7 := { stood := { row := topFaultsUptoRow, standIns := [], harness := (true, "aaf69617db32a40d72e5b31543e817a21410ec31e9d82b95d48803e8097a42f2"), looks := false }, kinds := [], alts := [], laidByText := true, laidKinds := [.data], laidTests := true, laidLooks := .later }
def TopFaultsUptoCardSaid : Prop := Claim7.holds Tryz.pinned (.plain (OpenSpec.upto topFaultsSpec)) topFaultsUptoCard

/-- THE SECOND FORM's CARD OF 'citadeltop.TopUndo'. -/
def topUndoUptoCard : Claim7 := { stood := { row := topUndoUptoRow, standIns := [], harness := (true, "aaf69617db32a40d72e5b31543e817a21410ec31e9d82b95d48803e8097a42f2"), looks := false }, kinds := [], alts := [], laidByText := true, laidKinds := [.data], laidTests := true, laidLooks := .later }
def TopUndoUptoCardSaid : Prop := Claim7.holds Tryz.pinned (.plain (OpenSpec.upto topUndoSpec)) topUndoUptoCard

/-- THE SECOND FORM's CARD OF 'citadeltop.TopHandOut'. -/
def topHandOutUptoCard : Claim7 := { stood := { row := topHandOutUptoRow, standIns := [], harness := (true, "aaf69617db32a40d72e5b31543e817a21410ec31e9d82b95d48803e8097a42f2"), looks := false }, kinds := [], alts := [], laidByText := true, laidKinds := [.data], laidTests := true, laidLooks := .later }
def TopHandOutUptoCardSaid : Prop := Claim7.holds Tryz.pinned (.plain (OpenSpec.upto topHandOutSpec)) topHandOutUptoCard
end Rows
end Go.Proofs.YtcohamkngfehlaaGreatDoor
