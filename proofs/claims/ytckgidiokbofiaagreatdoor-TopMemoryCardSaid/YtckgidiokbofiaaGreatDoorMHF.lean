import Derived.Test.YtckgidiokbofiaaGreatDoorRows
import Derived.Test.YtckgidiokbofiaaGreatDoorChecked
import Derived.ProofKit
import Derived.OpenShut
import Derived.Deep.DeepHandedRow
set_option linter.unusedSimpArgs false
set_option linter.unusedVariables false
set_option maxRecDepth 1000000
noncomputable section
namespace Go.Proofs.YtckgidiokbofiaaGreatDoor
open Go Go.ChangeShapes Go.WideShapes Go.ChangeAt Go.RowKit
theorem yw {a b:Bool} (h1:a=true) (h2:b=true):(a && b)=true:=by rw[h1,h2];rfl
theorem hf0:(Rows.topMemoryRow.wf (OpenSpec.ofChange Rows.topMemorySpec))=true:=by kernel_rfl
theorem hf1:(laidOutB Tryz.prog)=true:=by kernel_rfl
theorem hf2:(mapsRowed Tryz.prog)=true:=by kernel_rfl
theorem hf3:(Tryz.f3.params.all (Tryz.prog.readableRec ·))=true:=by kernel_rfl
theorem hf4:(namedTie Tryz.prog Rows.topMemoryRow.named Rows.topMemorySpec.vars)=true:=by kernel_rfl
theorem hf5:((Rows.topMemoryRow.stops == []))=true:=by kernel_rfl
theorem hf6:((Tryz.prog.stops == []))=true:=by kernel_rfl
theorem hf7:((Rows.topMemoryRow.knobs == []))=true:=by kernel_rfl
theorem hf8:((Tryz.prog.stopKnobs == []))=true:=by kernel_rfl
theorem hf9:((Rows.topMemoryRow.inPlace == Tryz.prog.inPlace 3))=true:=by kernel_rfl
theorem hf10:((Rows.topMemoryRow.unfollowed == Tryz.prog.unfollowed 3))=true:=by kernel_rfl
theorem hf11:((Rows.topMemoryRow.recurses == Tryz.prog.recurses 3))=true:=by kernel_rfl
theorem hf12:((Rows.topMemoryRow.named == Tryz.prog.varsNamed 3))=true:=by kernel_rfl
theorem hf13:((Rows.topMemoryRow.maps == (Tryz.f3.params.toList ++ Rows.topMemorySpec.plain.varTypes Tryz.prog).any (Tryz.prog.mapsRec ·)))=true:=by kernel_rfl
theorem hf14:((Rows.topMemoryRow.ifaces == (Tryz.f3.params.toList ++ Rows.topMemorySpec.plain.varTypes Tryz.prog).any (Tryz.prog.ifacesRec ·)))=true:=by kernel_rfl
theorem hf15:((Rows.topMemoryRow.mapsOut == Tryz.prog.mapsAmong Tryz.f3.resultTypes.toList))=true:=by kernel_rfl
theorem hf16:((Rows.topMemoryRow.loops == (Tryz.f3.params.toList ++ Rows.topMemorySpec.plain.varTypes Tryz.prog).any (Tryz.prog.loopsFrom ·)))=true:=by kernel_rfl
theorem hf17:((Rows.topMemoryRow.wideKeys == (Tryz.f3.params.toList ++ Rows.topMemorySpec.plain.varTypes Tryz.prog ++ Tryz.f3.resultTypes.toList).any (Tryz.prog.wideKeysFrom ·)))=true:=by kernel_rfl
theorem hf18:(Rows.topMemorySpec.vars.all (Tryz.prog.varReadable ·))=true:=by kernel_rfl
theorem hf19:(Tryz.f3.resultTypes.all (fun t=>Tryz.prog.readableRec t && decide (t<Tryz.prog.types.size)))=true:=by kernel_rfl
theorem hf20:((Rows.topMemoryRow.ifacesOut == Tryz.f3.resultTypes.toList.any (Tryz.prog.ifacesRec ·)))=true:=by kernel_rfl
theorem hf21:((Rows.topMemoryRow.loopsOut == Tryz.f3.resultTypes.toList.any (Tryz.prog.loopsFrom ·)))=true:=by kernel_rfl
theorem hf22:((Rows.topMemoryRow.plainKeys == Tryz.prog.plainKeys))=true:=by kernel_rfl
theorem hf23:(Rows.topMemoryRow.shortTexts.isNone)=true:=by kernel_rfl
theorem hf24:(Tryz.prog.stopsHeard)=true:=by kernel_rfl
theorem hf25:(Tryz.prog.mayEnter)=true:=by kernel_rfl
theorem hf26:((Rows.topMemoryRow.lifted == Tryz.prog.liftsFinal))=true:=by kernel_rfl
theorem hf27:((Tryz.prog.make == some Rows.topMemoryRow.make))=true:=by kernel_rfl
theorem hf28:((Rows.topMemoryRow.kinds == (if Rows.topMemoryRow.domain.isEmpty then [] else Tryz.f3.params.toList.map fun t=>match Tryz.prog.underlying t with | some (.int k)=>some k | _=>none)))=true:=by kernel_rfl
theorem hf29:((Rows.topMemoryRow.pinned == Rows.topMemoryRow.pinnedBy))=true:=by kernel_rfl
theorem hf30:((Rows.topMemoryRow.veiled == (Tryz.f3.params.toList ++ Rows.topMemorySpec.plain.varTypes Tryz.prog ++ Tryz.f3.resultTypes.toList).any (Tryz.prog.veiledRec ·)))=true:=by kernel_rfl
theorem hf31:(Rows.topMemoryRow.veiledFits Tryz.prog Tryz.f3.params.toList (Tryz.f3.params.toList ++ Rows.topMemorySpec.plain.varTypes Tryz.prog ++ Tryz.f3.resultTypes.toList))=true:=by kernel_rfl
theorem hffacts:joinedFacts Tryz.prog 3 Tryz.f3 Rows.topMemorySpec Rows.topMemoryRow=true:=(yw (yw (yw (yw (yw (yw (yw (yw (yw (yw (yw (yw (yw (yw (yw (yw (yw (yw (yw (yw (yw (yw (yw (yw (yw (yw (yw (yw (yw (yw (yw hf0 hf1) hf2) hf3) hf4) hf5) hf6) hf7) hf8) hf9) hf10) hf11) hf12) hf13) hf14) hf15) hf16) hf17) hf18) hf19) hf20) hf21) hf22) hf23) hf24) hf25) hf26) hf27) hf28) hf29) hf30) hf31)
end Go.Proofs.YtckgidiokbofiaaGreatDoor
end
