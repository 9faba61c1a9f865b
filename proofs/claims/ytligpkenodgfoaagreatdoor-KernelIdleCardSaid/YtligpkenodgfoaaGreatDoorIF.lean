/-
  The closed facts of the row.
-/
import Derived.Test.YtligpkenodgfoaaGreatDoorRows
import Derived.Test.YtligpkenodgfoaaGreatDoorProg
import Derived.ProofKit
import Derived.OpenShut
import Derived.Deep.DeepHandedRow
import Derived.JoinedCond
set_option linter.unusedSimpArgs false
set_option linter.unusedVariables false
set_option maxRecDepth 100000
namespace Go.Proofs.YtligpkenodgfoaaGreatDoor
open Go Go.ChangeShapes Go.WideShapes Go.ChangeAt Go.RowKit
theorem ijband {a b : Bool} (h1 : a = true) (h2 : b = true) : (a && b) = true := by rw [h1, h2]; rfl
theorem ij0 : (Rows.kernelIdleRow.wf (OpenSpec.ofChange Rows.kernelIdleSpec)) = true := by kernel_rfl
theorem ij1 : (laidOutB Tryz.prog) = true := by kernel_rfl
theorem ij2 : (mapsRowed Tryz.prog) = true := by kernel_rfl
theorem ij3 : (Tryz.f6.params.all (Tryz.prog.readableRec ·)) = true := by kernel_rfl
theorem ij4 : (namedTie Tryz.prog Rows.kernelIdleRow.named Rows.kernelIdleSpec.vars) = true := by kernel_rfl
theorem ij5 : ((Rows.kernelIdleRow.stops == [])) = true := by kernel_rfl
theorem ij6 : ((Tryz.prog.stops == [])) = true := by kernel_rfl
theorem ij7 : ((Rows.kernelIdleRow.knobs == [])) = true := by kernel_rfl
theorem ij8 : ((Tryz.prog.stopKnobs == [])) = true := by kernel_rfl
theorem ij9 : ((Rows.kernelIdleRow.inPlace == Tryz.prog.inPlace 6)) = true := by kernel_rfl
theorem ij10 : ((Rows.kernelIdleRow.unfollowed == Tryz.prog.unfollowed 6)) = true := by kernel_rfl
theorem ij11 : ((Rows.kernelIdleRow.recurses == Tryz.prog.recurses 6)) = true := by kernel_rfl
theorem ij12 : ((Rows.kernelIdleRow.named == Tryz.prog.varsNamed 6)) = true := by kernel_rfl
theorem ij13 : ((Rows.kernelIdleRow.maps == (Tryz.f6.params.toList ++ Rows.kernelIdleSpec.plain.varTypes Tryz.prog).any (Tryz.prog.mapsRec ·))) = true := by kernel_rfl
theorem ij14 : ((Rows.kernelIdleRow.ifaces == (Tryz.f6.params.toList ++ Rows.kernelIdleSpec.plain.varTypes Tryz.prog).any (Tryz.prog.ifacesRec ·))) = true := by kernel_rfl
theorem ij15 : ((Rows.kernelIdleRow.mapsOut == Tryz.prog.mapsAmong Tryz.f6.resultTypes.toList)) = true := by kernel_rfl
theorem ij16 : ((Rows.kernelIdleRow.loops == (Tryz.f6.params.toList ++ Rows.kernelIdleSpec.plain.varTypes Tryz.prog).any (Tryz.prog.loopsFrom ·))) = true := by kernel_rfl
theorem ij17 : ((Rows.kernelIdleRow.wideKeys == (Tryz.f6.params.toList ++ Rows.kernelIdleSpec.plain.varTypes Tryz.prog ++ Tryz.f6.resultTypes.toList).any (Tryz.prog.wideKeysFrom ·))) = true := by kernel_rfl
theorem ij18 : (Rows.kernelIdleSpec.vars.all (Tryz.prog.varReadable ·)) = true := by kernel_rfl
theorem ij19 : (Tryz.f6.resultTypes.all (fun t => Tryz.prog.readableRec t && decide (t < Tryz.prog.types.size))) = true := by kernel_rfl
theorem ij20 : ((Rows.kernelIdleRow.ifacesOut == Tryz.f6.resultTypes.toList.any (Tryz.prog.ifacesRec ·))) = true := by kernel_rfl
theorem ij21 : ((Rows.kernelIdleRow.loopsOut == Tryz.f6.resultTypes.toList.any (Tryz.prog.loopsFrom ·))) = true := by kernel_rfl
theorem ij22 : ((Rows.kernelIdleRow.plainKeys == Tryz.prog.plainKeys)) = true := by kernel_rfl
theorem ij23 : (Rows.kernelIdleRow.shortTexts.isNone) = true := by kernel_rfl
theorem ij24 : (Tryz.prog.stopsHeard) = true := by kernel_rfl
theorem ij25 : (Tryz.prog.mayEnter) = true := by kernel_rfl
theorem ij26 : ((Rows.kernelIdleRow.lifted == Tryz.prog.liftsFinal)) = true := by kernel_rfl
theorem ij27 : ((Tryz.prog.make == some Rows.kernelIdleRow.make)) = true := by kernel_rfl
theorem ij28 : ((Rows.kernelIdleRow.kinds == (if Rows.kernelIdleRow.domain.isEmpty then [] else Tryz.f6.params.toList.map fun t => match Tryz.prog.underlying t with | some (.int k) => some k | _ => none))) = true := by kernel_rfl
theorem ij29 : ((Rows.kernelIdleRow.pinned == Rows.kernelIdleRow.pinnedBy)) = true := by kernel_rfl
theorem ij30 : ((Rows.kernelIdleRow.veiled == (Tryz.f6.params.toList ++ Rows.kernelIdleSpec.plain.varTypes Tryz.prog ++ Tryz.f6.resultTypes.toList).any (Tryz.prog.veiledRec ·))) = true := by kernel_rfl
theorem ij31 : (Rows.kernelIdleRow.veiledFits Tryz.prog Tryz.f6.params.toList (Tryz.f6.params.toList ++ Rows.kernelIdleSpec.plain.varTypes Tryz.prog ++ Tryz.f6.resultTypes.toList)) = true := by kernel_rfl
theorem ijfacts : joinedFacts Tryz.prog 6 Tryz.f6 Rows.kernelIdleSpec Rows.kernelIdleRow = true := (ijband (ijband (ijband (ijband (ijband (ijband (ijband (ijband (ijband (ijband (ijband (ijband (ijband (ijband (ijband (ijband (ijband (ijband (ijband (ijband (ijband (ijband (ijband (ijband (ijband (ijband (ijband (ijband (ijband (ijband (ijband ij0 ij1) ij2) ij3) ij4) ij5) ij6) ij7) ij8) ij9) ij10) ij11) ij12) ij13) ij14) ij15) ij16) ij17) ij18) ij19) ij20) ij21) ij22) ij23) ij24) ij25) ij26) ij27) ij28) ij29) ij30) ij31)
end Go.Proofs.YtligpkenodgfoaaGreatDoor
