import Derived.Test.YtckgidiokbofiaaGreatDoorRows
import Derived.Test.YtckgidiokbofiaaGreatDoorChecked
import Derived.ProofKit
import Derived.OpenShut
import Derived.Deep.DeepHandedRow
set_option linter.unusedSimpArgs false
set_option linter.unusedVariables false
set_option maxRecDepth 1000000
noncomputable section
namespace Go.Proofs.YtckgidiokbofiaaGreatDoor
open Go Go.ChangeShapes Go.WideShapes Go.ChangeAt Go.RowKit
theorem yv {a b:Bool} (h1:a=true) (h2:b=true):(a && b)=true:=by rw[h1,h2];rfl
theorem hf0:(Rows.topRecycleRow.wf (OpenSpec.ofChange Rows.topRecycleSpec))=true:=by kernel_rfl
theorem hf1:(laidOutB Tryz.prog)=true:=by kernel_rfl
theorem hf2:(mapsRowed Tryz.prog)=true:=by kernel_rfl
theorem hf3:(Tryz.f4.params.all (Tryz.prog.readableRec ·))=true:=by kernel_rfl
theorem hf4:(namedTie Tryz.prog Rows.topRecycleRow.named Rows.topRecycleSpec.vars)=true:=by kernel_rfl
theorem hf5:((Rows.topRecycleRow.stops == []))=true:=by kernel_rfl
theorem hf6:((Tryz.prog.stops == []))=true:=by kernel_rfl
theorem hf7:((Rows.topRecycleRow.knobs == []))=true:=by kernel_rfl
theorem hf8:((Tryz.prog.stopKnobs == []))=true:=by kernel_rfl
theorem hf9:((Rows.topRecycleRow.inPlace == Tryz.prog.inPlace 4))=true:=by kernel_rfl
theorem hf10:((Rows.topRecycleRow.unfollowed == Tryz.prog.unfollowed 4))=true:=by kernel_rfl
theorem hf11:((Rows.topRecycleRow.recurses == Tryz.prog.recurses 4))=true:=by kernel_rfl
theorem hf12:((Rows.topRecycleRow.named == Tryz.prog.varsNamed 4))=true:=by kernel_rfl
theorem hf13:((Rows.topRecycleRow.maps == (Tryz.f4.params.toList ++ Rows.topRecycleSpec.plain.varTypes Tryz.prog).any (Tryz.prog.mapsRec ·)))=true:=by kernel_rfl
theorem hf14:((Rows.topRecycleRow.ifaces == (Tryz.f4.params.toList ++ Rows.topRecycleSpec.plain.varTypes Tryz.prog).any (Tryz.prog.ifacesRec ·)))=true:=by kernel_rfl
theorem hf15:((Rows.topRecycleRow.mapsOut == Tryz.prog.mapsAmong Tryz.f4.resultTypes.toList))=true:=by kernel_rfl
theorem hf16:((Rows.topRecycleRow.loops == (Tryz.f4.params.toList ++ Rows.topRecycleSpec.plain.varTypes Tryz.prog).any (Tryz.prog.loopsFrom ·)))=true:=by kernel_rfl
theorem hf17:((Rows.topRecycleRow.wideKeys == (Tryz.f4.params.toList ++ Rows.topRecycleSpec.plain.varTypes Tryz.prog ++ Tryz.f4.resultTypes.toList).any (Tryz.prog.wideKeysFrom ·)))=true:=by kernel_rfl
theorem hf18:(Rows.topRecycleSpec.vars.all (Tryz.prog.varReadable ·))=true:=by kernel_rfl
theorem hf19:(Tryz.f4.resultTypes.all (fun t=>Tryz.prog.readableRec t && decide (t<Tryz.prog.types.size)))=true:=by kernel_rfl
theorem hf20:((Rows.topRecycleRow.ifacesOut == Tryz.f4.resultTypes.toList.any (Tryz.prog.ifacesRec ·)))=true:=by kernel_rfl
theorem hf21:((Rows.topRecycleRow.loopsOut == Tryz.f4.resultTypes.toList.any (Tryz.prog.loopsFrom ·)))=true:=by kernel_rfl
theorem hf22:((Rows.topRecycleRow.plainKeys == Tryz.prog.plainKeys))=true:=by kernel_rfl
theorem hf23:(Rows.topRecycleRow.shortTexts.isNone)=true:=by kernel_rfl
theorem hf24:(Tryz.prog.stopsHeard)=true:=by kernel_rfl
theorem hf25:(Tryz.prog.mayEnter)=true:=by kernel_rfl
theorem hf26:((Rows.topRecycleRow.lifted == Tryz.prog.liftsFinal))=true:=by kernel_rfl
theorem hf27:((Tryz.prog.make == some Rows.topRecycleRow.make))=true:=by kernel_rfl
theorem hf28:((Rows.topRecycleRow.kinds == (if Rows.topRecycleRow.domain.isEmpty then [] else Tryz.f4.params.toList.map fun t=>match Tryz.prog.underlying t with | some (.int k)=>some k | _=>none)))=true:=by kernel_rfl
theorem hf29:((Rows.topRecycleRow.pinned == Rows.topRecycleRow.pinnedBy))=true:=by kernel_rfl
theorem hf30:((Rows.topRecycleRow.veiled == (Tryz.f4.params.toList ++ Rows.topRecycleSpec.plain.varTypes Tryz.prog ++ Tryz.f4.resultTypes.toList).any (Tryz.prog.veiledRec ·)))=true:=by kernel_rfl
theorem hf31:(Rows.topRecycleRow.veiledFits Tryz.prog Tryz.f4.params.toList (Tryz.f4.params.toList ++ Rows.topRecycleSpec.plain.varTypes Tryz.prog ++ Tryz.f4.resultTypes.toList))=true:=by kernel_rfl
theorem hffacts:joinedFacts Tryz.prog 4 Tryz.f4 Rows.topRecycleSpec Rows.topRecycleRow=true:=(yv (yv (yv (yv (yv (yv (yv (yv (yv (yv (yv (yv (yv (yv (yv (yv (yv (yv (yv (yv (yv (yv (yv (yv (yv (yv (yv (yv (yv (yv (yv hf0 hf1) hf2) hf3) hf4) hf5) hf6) hf7) hf8) hf9) hf10) hf11) hf12) hf13) hf14) hf15) hf16) hf17) hf18) hf19) hf20) hf21) hf22) hf23) hf24) hf25) hf26) hf27) hf28) hf29) hf30) hf31)
end Go.Proofs.YtckgidiokbofiaaGreatDoor
end
