import Derived.Test.YtckgidiokbofiaaGreatDoorOR2
set_option linter.unusedSimpArgs false
set_option linter.unusedVariables false
noncomputable section
namespace Go.Proofs.YtckgidiokbofiaaGreatDoor
open Go Go.Ev Go.Ev.X Go.ChangeShapes Go.WideShapes Go.ChangeAt Go.RowKit
set_option maxRecDepth 1000000 in
theorem card_g:false=Rows.topRecycleRow.goesBy Tryz.pinned.checked.prog:=by kernel_rfl
end Go.Proofs.YtckgidiokbofiaaGreatDoor
end
