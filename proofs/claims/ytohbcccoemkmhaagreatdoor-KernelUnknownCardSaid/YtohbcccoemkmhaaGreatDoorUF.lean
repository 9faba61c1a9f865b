/-
  The closed facts of the row.
-/
import Derived.Test.YtohbcccoemkmhaaGreatDoorRows
import Derived.Test.YtohbcccoemkmhaaGreatDoorProg
import Derived.ProofKit
import Derived.OpenShut
import Derived.Deep.DeepHandedRow
import Derived.JoinedCond
set_option linter.unusedSimpArgs false
set_option linter.unusedVariables false
set_option maxRecDepth 100000
namespace Go.Proofs.YtohbcccoemkmhaaGreatDoor
open Go Go.ChangeShapes Go.WideShapes Go.ChangeAt Go.RowKit
theorem ujband {a b : Bool} (h1 : a = true) (h2 : b = true) : (a && b) = true := by rw [h1, h2]; rfl
theorem uj0 : (Rows.kernelUnknownRow.wf (OpenSpec.ofChange Rows.kernelUnknownSpec)) = true := by kernel_rfl
theorem uj1 : (laidOutB Tryz.prog) = true := by kernel_rfl
theorem uj2 : (mapsRowed Tryz.prog) = true := by kernel_rfl
theorem uj3 : (Tryz.f4.params.all (Tryz.prog.readableRec ·)) = true := by kernel_rfl
theorem uj4 : (namedTie Tryz.prog Rows.kernelUnknownRow.named Rows.kernelUnknownSpec.vars) = true := by kernel_rfl
theorem uj5 : ((Rows.kernelUnknownRow.stops == [])) = true := by kernel_rfl
theorem uj6 : ((Tryz.prog.stops == [])) = true := by kernel_rfl
theorem uj7 : ((Rows.kernelUnknownRow.knobs == [])) = true := by kernel_rfl
theorem uj8 : ((Tryz.prog.stopKnobs == [])) = true := by kernel_rfl
theorem uj9 : ((Rows.kernelUnknownRow.inPlace == Tryz.prog.inPlace 4)) = true := by kernel_rfl
theorem uj10 : ((Rows.kernelUnknownRow.unfollowed == Tryz.prog.unfollowed 4)) = true := by kernel_rfl
theorem uj11 : ((Rows.kernelUnknownRow.recurses == Tryz.prog.recurses 4)) = true := by kernel_rfl
theorem uj12 : ((Rows.kernelUnknownRow.named == Tryz.prog.varsNamed 4)) = true := by kernel_rfl
theorem uj13 : ((Rows.kernelUnknownRow.maps == (Tryz.f4.params.toList ++ Rows.kernelUnknownSpec.plain.varTypes Tryz.prog).any (Tryz.prog.mapsRec ·))) = true := by kernel_rfl
theorem uj14 : ((Rows.kernelUnknownRow.ifaces == (Tryz.f4.params.toList ++ Rows.kernelUnknownSpec.plain.varTypes Tryz.prog).any (Tryz.prog.ifacesRec ·))) = true := by kernel_rfl
theorem uj15 : ((Rows.kernelUnknownRow.mapsOut == Tryz.prog.mapsAmong Tryz.f4.resultTypes.toList)) = true := by kernel_rfl
theorem uj16 : ((Rows.kernelUnknownRow.loops == (Tryz.f4.params.toList ++ Rows.kernelUnknownSpec.plain.varTypes Tryz.prog).any (Tryz.prog.loopsFrom ·))) = true := by kernel_rfl
theorem uj17 : ((Rows.kernelUnknownRow.wideKeys == (Tryz.f4.params.toList ++ Rows.kernelUnknownSpec.plain.varTypes Tryz.prog ++ Tryz.f4.resultTypes.toList).any (Tryz.prog.wideKeysFrom ·))) = true := by kernel_rfl
theorem uj18 : (Rows.kernelUnknownSpec.vars.all (Tryz.prog.varReadable ·)) = true := by kernel_rfl
theorem uj19 : (Tryz.f4.resultTypes.all (fun t => Tryz.prog.readableRec t && decide (t < Tryz.prog.types.size))) = true := by kernel_rfl
theorem uj20 : ((Rows.kernelUnknownRow.ifacesOut == Tryz.f4.resultTypes.toList.any (Tryz.prog.ifacesRec ·))) = true := by kernel_rfl
theorem uj21 : ((Rows.kernelUnknownRow.loopsOut == Tryz.f4.resultTypes.toList.any (Tryz.prog.loopsFrom ·))) = true := by kernel_rfl
theorem uj22 : ((Rows.kernelUnknownRow.plainKeys == Tryz.prog.plainKeys)) = true := by kernel_rfl
theorem uj23 : (Rows.kernelUnknownRow.shortTexts.isNone) = true := by kernel_rfl
theorem uj24 : (Tryz.prog.stopsHeard) = true := by kernel_rfl
theorem uj25 : (Tryz.prog.mayEnter) = true := by kernel_rfl
theorem uj26 : ((Rows.kernelUnknownRow.lifted == Tryz.prog.liftsFinal)) = true := by kernel_rfl
theorem uj27 : ((Tryz.prog.make == some Rows.kernelUnknownRow.make)) = true := by kernel_rfl
theorem uj28 : ((Rows.kernelUnknownRow.kinds == (if Rows.kernelUnknownRow.domain.isEmpty then [] else Tryz.f4.params.toList.map fun t => match Tryz.prog.underlying t with | some (.int k) => some k | _ => none))) = true := by kernel_rfl
theorem uj29 : ((Rows.kernelUnknownRow.pinned == Rows.kernelUnknownRow.pinnedBy)) = true := by kernel_rfl
theorem uj30 : ((Rows.kernelUnknownRow.veiled == (Tryz.f4.params.toList ++ Rows.kernelUnknownSpec.plain.varTypes Tryz.prog ++ Tryz.f4.resultTypes.toList).any (Tryz.prog.veiledRec ·))) = true := by kernel_rfl
theorem uj31 : (Rows.kernelUnknownRow.veiledFits Tryz.prog Tryz.f4.params.toList (Tryz.f4.params.toList ++ Rows.kernelUnknownSpec.plain.varTypes Tryz.prog ++ Tryz.f4.resultTypes.toList)) = true := by kernel_rfl
theorem ujfacts : joinedFacts Tryz.prog 4 Tryz.f4 Rows.kernelUnknownSpec Rows.kernelUnknownRow = true := (ujband (ujband (ujband (ujband (ujband (ujband (ujband (ujband (ujband (ujband (ujband (ujband (ujband (ujband (ujband (ujband (ujband (ujband (ujband (ujband (ujband (ujband (ujband (ujband (ujband (ujband (ujband (ujband (ujband (ujband (ujband uj0 uj1) uj2) uj3) uj4) uj5) uj6) uj7) uj8) uj9) uj10) uj11) uj12) uj13) uj14) uj15) uj16) uj17) uj18) uj19) uj20) uj21) uj22) uj23) uj24) uj25) uj26) uj27) uj28) uj29) uj30) uj31)
end Go.Proofs.YtohbcccoemkmhaaGreatDoor
