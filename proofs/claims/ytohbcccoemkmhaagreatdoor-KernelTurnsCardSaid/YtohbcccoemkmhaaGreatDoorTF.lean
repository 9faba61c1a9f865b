/-
  The closed facts of the row.
-/
import Derived.Test.YtohbcccoemkmhaaGreatDoorRows
import Derived.Test.YtohbcccoemkmhaaGreatDoorProg
import Derived.ProofKit
import Derived.OpenShut
import Derived.Deep.DeepHandedRow
import Derived.JoinedCond
set_option linter.unusedSimpArgs false
set_option linter.unusedVariables false
set_option maxRecDepth 100000
namespace Go.Proofs.YtohbcccoemkmhaaGreatDoor
open Go Go.ChangeShapes Go.WideShapes Go.ChangeAt Go.RowKit
theorem tjband {a b : Bool} (h1 : a = true) (h2 : b = true) : (a && b) = true := by rw [h1, h2]; rfl
theorem tj0 : (Rows.kernelTurnsRow.wf (OpenSpec.ofChange Rows.kernelTurnsSpec)) = true := by kernel_rfl
theorem tj1 : (laidOutB Tryz.prog) = true := by kernel_rfl
theorem tj2 : (mapsRowed Tryz.prog) = true := by kernel_rfl
theorem tj3 : (Tryz.f3.params.all (Tryz.prog.readableRec ·)) = true := by kernel_rfl
theorem tj4 : (namedTie Tryz.prog Rows.kernelTurnsRow.named Rows.kernelTurnsSpec.vars) = true := by kernel_rfl
theorem tj5 : ((Rows.kernelTurnsRow.stops == [])) = true := by kernel_rfl
theorem tj6 : ((Tryz.prog.stops == [])) = true := by kernel_rfl
theorem tj7 : ((Rows.kernelTurnsRow.knobs == [])) = true := by kernel_rfl
theorem tj8 : ((Tryz.prog.stopKnobs == [])) = true := by kernel_rfl
theorem tj9 : ((Rows.kernelTurnsRow.inPlace == Tryz.prog.inPlace 3)) = true := by kernel_rfl
theorem tj10 : ((Rows.kernelTurnsRow.unfollowed == Tryz.prog.unfollowed 3)) = true := by kernel_rfl
theorem tj11 : ((Rows.kernelTurnsRow.recurses == Tryz.prog.recurses 3)) = true := by kernel_rfl
theorem tj12 : ((Rows.kernelTurnsRow.named == Tryz.prog.varsNamed 3)) = true := by kernel_rfl
theorem tj13 : ((Rows.kernelTurnsRow.maps == (Tryz.f3.params.toList ++ Rows.kernelTurnsSpec.plain.varTypes Tryz.prog).any (Tryz.prog.mapsRec ·))) = true := by kernel_rfl
theorem tj14 : ((Rows.kernelTurnsRow.ifaces == (Tryz.f3.params.toList ++ Rows.kernelTurnsSpec.plain.varTypes Tryz.prog).any (Tryz.prog.ifacesRec ·))) = true := by kernel_rfl
theorem tj15 : ((Rows.kernelTurnsRow.mapsOut == Tryz.prog.mapsAmong Tryz.f3.resultTypes.toList)) = true := by kernel_rfl
theorem tj16 : ((Rows.kernelTurnsRow.loops == (Tryz.f3.params.toList ++ Rows.kernelTurnsSpec.plain.varTypes Tryz.prog).any (Tryz.prog.loopsFrom ·))) = true := by kernel_rfl
theorem tj17 : ((Rows.kernelTurnsRow.wideKeys == (Tryz.f3.params.toList ++ Rows.kernelTurnsSpec.plain.varTypes Tryz.prog ++ Tryz.f3.resultTypes.toList).any (Tryz.prog.wideKeysFrom ·))) = true := by kernel_rfl
theorem tj18 : (Rows.kernelTurnsSpec.vars.all (Tryz.prog.varReadable ·)) = true := by kernel_rfl
theorem tj19 : (Tryz.f3.resultTypes.all (fun t => Tryz.prog.readableRec t && decide (t < Tryz.prog.types.size))) = true := by kernel_rfl
theorem tj20 : ((Rows.kernelTurnsRow.ifacesOut == Tryz.f3.resultTypes.toList.any (Tryz.prog.ifacesRec ·))) = true := by kernel_rfl
theorem tj21 : ((Rows.kernelTurnsRow.loopsOut == Tryz.f3.resultTypes.toList.any (Tryz.prog.loopsFrom ·))) = true := by kernel_rfl
theorem tj22 : ((Rows.kernelTurnsRow.plainKeys == Tryz.prog.plainKeys)) = true := by kernel_rfl
theorem tj23 : (Rows.kernelTurnsRow.shortTexts.isNone) = true := by kernel_rfl
theorem tj24 : (Tryz.prog.stopsHeard) = true := by kernel_rfl
theorem tj25 : (Tryz.prog.mayEnter) = true := by kernel_rfl
theorem tj26 : ((Rows.kernelTurnsRow.lifted == Tryz.prog.liftsFinal)) = true := by kernel_rfl
theorem tj27 : ((Tryz.prog.make == some Rows.kernelTurnsRow.make)) = true := by kernel_rfl
theorem tj28 : ((Rows.kernelTurnsRow.kinds == (if Rows.kernelTurnsRow.domain.isEmpty then [] else Tryz.f3.params.toList.map fun t => match Tryz.prog.underlying t with | some (.int k) => some k | _ => none))) = true := by kernel_rfl
theorem tj29 : ((Rows.kernelTurnsRow.pinned == Rows.kernelTurnsRow.pinnedBy)) = true := by kernel_rfl
theorem tj30 : ((Rows.kernelTurnsRow.veiled == (Tryz.f3.params.toList ++ Rows.kernelTurnsSpec.plain.varTypes Tryz.prog ++ Tryz.f3.resultTypes.toList).any (Tryz.prog.veiledRec ·))) = true := by kernel_rfl
theorem tj31 : (Rows.kernelTurnsRow.veiledFits Tryz.prog Tryz.f3.params.toList (Tryz.f3.params.toList ++ Rows.kernelTurnsSpec.plain.varTypes Tryz.prog ++ Tryz.f3.resultTypes.toList)) = true := by kernel_rfl
theorem tjfacts : joinedFacts Tryz.prog 3 Tryz.f3 Rows.kernelTurnsSpec Rows.kernelTurnsRow = true := (tjband (tjband (tjband (tjband (tjband (tjband (tjband (tjband (tjband (tjband (tjband (tjband (tjband (tjband (tjband (tjband (tjband (tjband (tjband (tjband (tjband (tjband (tjband (tjband (tjband (tjband (tjband (tjband (tjband (tjband (tjband tj0 tj1) tj2) tj3) tj4) tj5) tj6) tj7) tj8) tj9) tj10) tj11) tj12) tj13) tj14) tj15) tj16) tj17) tj18) tj19) tj20) tj21) tj22) tj23) tj24) tj25) tj26) tj27) tj28) tj29) tj30) tj31)
end Go.Proofs.YtohbcccoemkmhaaGreatDoor
