import Derived.Test.YtcohamkngfehlaaGreatDoorOG2
set_option linter.unusedSimpArgs false
set_option linter.unusedVariables false
noncomputable section
namespace Go.Proofs.YtcohamkngfehlaaGreatDoor
open Go Go.Ev Go.Ev.X Go.ChangeShapes Go.WideShapes Go.ChangeAt Go.RowKit
set_option maxRecDepth 1000000 in
theorem card_g:false=Rows.topPagesRow.goesBy Tryz.pinned.checked.prog:=by kernel_rfl
end Go.Proofs.YtcohamkngfehlaaGreatDoor
end
