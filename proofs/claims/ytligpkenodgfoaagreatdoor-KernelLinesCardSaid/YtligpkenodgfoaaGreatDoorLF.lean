/-
  The closed facts of the row.
-/
import Derived.Test.YtligpkenodgfoaaGreatDoorRows
import Derived.Test.YtligpkenodgfoaaGreatDoorProg
import Derived.ProofKit
import Derived.OpenShut
import Derived.Deep.DeepHandedRow
import Derived.JoinedCond
set_option linter.unusedSimpArgs false
set_option linter.unusedVariables false
set_option maxRecDepth 100000
namespace Go.Proofs.YtligpkenodgfoaaGreatDoor
open Go Go.ChangeShapes Go.WideShapes Go.ChangeAt Go.RowKit
theorem ljband {a b : Bool} (h1 : a = true) (h2 : b = true) : (a && b) = true := by rw [h1, h2]; rfl
theorem lj0 : (Rows.kernelLinesRow.wf (OpenSpec.ofChange Rows.kernelLinesSpec)) = true := by kernel_rfl
theorem lj1 : (laidOutB Tryz.prog) = true := by kernel_rfl
theorem lj2 : (mapsRowed Tryz.prog) = true := by kernel_rfl
theorem lj3 : (Tryz.f5.params.all (Tryz.prog.readableRec ·)) = true := by kernel_rfl
theorem lj4 : (namedTie Tryz.prog Rows.kernelLinesRow.named Rows.kernelLinesSpec.vars) = true := by kernel_rfl
theorem lj5 : ((Rows.kernelLinesRow.stops == [])) = true := by kernel_rfl
theorem lj6 : ((Tryz.prog.stops == [])) = true := by kernel_rfl
theorem lj7 : ((Rows.kernelLinesRow.knobs == [])) = true := by kernel_rfl
theorem lj8 : ((Tryz.prog.stopKnobs == [])) = true := by kernel_rfl
theorem lj9 : ((Rows.kernelLinesRow.inPlace == Tryz.prog.inPlace 5)) = true := by kernel_rfl
theorem lj10 : ((Rows.kernelLinesRow.unfollowed == Tryz.prog.unfollowed 5)) = true := by kernel_rfl
theorem lj11 : ((Rows.kernelLinesRow.recurses == Tryz.prog.recurses 5)) = true := by kernel_rfl
theorem lj12 : ((Rows.kernelLinesRow.named == Tryz.prog.varsNamed 5)) = true := by kernel_rfl
theorem lj13 : ((Rows.kernelLinesRow.maps == (Tryz.f5.params.toList ++ Rows.kernelLinesSpec.plain.varTypes Tryz.prog).any (Tryz.prog.mapsRec ·))) = true := by kernel_rfl
theorem lj14 : ((Rows.kernelLinesRow.ifaces == (Tryz.f5.params.toList ++ Rows.kernelLinesSpec.plain.varTypes Tryz.prog).any (Tryz.prog.ifacesRec ·))) = true := by kernel_rfl
theorem lj15 : ((Rows.kernelLinesRow.mapsOut == Tryz.prog.mapsAmong Tryz.f5.resultTypes.toList)) = true := by kernel_rfl
theorem lj16 : ((Rows.kernelLinesRow.loops == (Tryz.f5.params.toList ++ Rows.kernelLinesSpec.plain.varTypes Tryz.prog).any (Tryz.prog.loopsFrom ·))) = true := by kernel_rfl
theorem lj17 : ((Rows.kernelLinesRow.wideKeys == (Tryz.f5.params.toList ++ Rows.kernelLinesSpec.plain.varTypes Tryz.prog ++ Tryz.f5.resultTypes.toList).any (Tryz.prog.wideKeysFrom ·))) = true := by kernel_rfl
theorem lj18 : (Rows.kernelLinesSpec.vars.all (Tryz.prog.varReadable ·)) = true := by kernel_rfl
theorem lj19 : (Tryz.f5.resultTypes.all (fun t => Tryz.prog.readableRec t && decide (t < Tryz.prog.types.size))) = true := by kernel_rfl
theorem lj20 : ((Rows.kernelLinesRow.ifacesOut == Tryz.f5.resultTypes.toList.any (Tryz.prog.ifacesRec ·))) = true := by kernel_rfl
theorem lj21 : ((Rows.kernelLinesRow.loopsOut == Tryz.f5.resultTypes.toList.any (Tryz.prog.loopsFrom ·))) = true := by kernel_rfl
theorem lj22 : ((Rows.kernelLinesRow.plainKeys == Tryz.prog.plainKeys)) = true := by kernel_rfl
theorem lj23 : (Rows.kernelLinesRow.shortTexts.isNone) = true := by kernel_rfl
theorem lj24 : (Tryz.prog.stopsHeard) = true := by kernel_rfl
theorem lj25 : (Tryz.prog.mayEnter) = true := by kernel_rfl
theorem lj26 : ((Rows.kernelLinesRow.lifted == Tryz.prog.liftsFinal)) = true := by kernel_rfl
theorem lj27 : ((Tryz.prog.make == some Rows.kernelLinesRow.make)) = true := by kernel_rfl
theorem lj28 : ((Rows.kernelLinesRow.kinds == (if Rows.kernelLinesRow.domain.isEmpty then [] else Tryz.f5.params.toList.map fun t => match Tryz.prog.underlying t with | some (.int k) => some k | _ => none))) = true := by kernel_rfl
theorem lj29 : ((Rows.kernelLinesRow.pinned == Rows.kernelLinesRow.pinnedBy)) = true := by kernel_rfl
theorem lj30 : ((Rows.kernelLinesRow.veiled == (Tryz.f5.params.toList ++ Rows.kernelLinesSpec.plain.varTypes Tryz.prog ++ Tryz.f5.resultTypes.toList).any (Tryz.prog.veiledRec ·))) = true := by kernel_rfl
theorem lj31 : (Rows.kernelLinesRow.veiledFits Tryz.prog Tryz.f5.params.toList (Tryz.f5.params.toList ++ Rows.kernelLinesSpec.plain.varTypes Tryz.prog ++ Tryz.f5.resultTypes.toList)) = true := by kernel_rfl
theorem ljfacts : joinedFacts Tryz.prog 5 Tryz.f5 Rows.kernelLinesSpec Rows.kernelLinesRow = true := (ljband (ljband (ljband (ljband (ljband (ljband (ljband (ljband (ljband (ljband (ljband (ljband (ljband (ljband (ljband (ljband (ljband (ljband (ljband (ljband (ljband (ljband (ljband (ljband (ljband (ljband (ljband (ljband (ljband (ljband (ljband lj0 lj1) lj2) lj3) lj4) lj5) lj6) lj7) lj8) lj9) lj10) lj11) lj12) lj13) lj14) lj15) lj16) lj17) lj18) lj19) lj20) lj21) lj22) lj23) lj24) lj25) lj26) lj27) lj28) lj29) lj30) lj31)
end Go.Proofs.YtligpkenodgfoaaGreatDoor
