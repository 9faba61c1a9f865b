import Derived.Test.YtckgidiokbofiaaGreatDoorRows
import Derived.Test.YtckgidiokbofiaaGreatDoorCards
import Derived.Test.YtckgidiokbofiaaGreatDoorTie
import Derived.Test.YtckgidiokbofiaaGreatDoorChecked
import Derived.ProofKit
import Derived.OpenShut
import Derived.ChangeSlices
import Derived.Deep.DeepHandedRow
import Derived.Lib.LaidTab
set_option linter.unusedSimpArgs false
set_option linter.unusedVariables false
noncomputable section
namespace Go.Proofs.YtckgidiokbofiaaGreatDoor
open Go Go.ChangeShapes Go.WideShapes Go.ChangeAt Go.RowKit
set_option maxRecDepth 1000000 in
theorem card_g:false=Rows.topMemoryRow.goesBy Tryz.pinned.checked.prog:=by kernel_rfl
end Go.Proofs.YtckgidiokbofiaaGreatDoor
end
