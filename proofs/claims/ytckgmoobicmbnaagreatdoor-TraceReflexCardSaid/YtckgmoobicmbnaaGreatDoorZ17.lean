import Derived.Test.YtckgmoobicmbnaaGreatDoorRows
import Derived.JoinedOf
import Derived.Test.YtckgmoobicmbnaaGreatDoorZ0
namespace Go.Proofs.YtckgmoobicmbnaaGreatDoor
set_option maxRecDepth 100000
set_option maxHeartbeats 8000000
set_option linter.all false
open Go.Proofs.Tryz
open Go.OpenSpec renaming ofChange->qZ
open Go.Proofs.Tryz renaming prog->aC
section
open Go
theorem jf1:(Rows.traceReflexRow.wf (qZ Rows.traceReflexSpec))=true:=by kernel_rfl
theorem jf2:(laidOutB aC)=true:=by kernel_rfl
theorem jf3:(mapsRowed aC)=true:=by kernel_rfl
theorem jf4:(Tryz.f4.params.all (Tryz.prog.readableRec ·))=true:=by kernel_rfl
theorem jf5:(namedTie aC Rows.traceReflexRow.named Rows.traceReflexSpec.vars)=true:=by kernel_rfl
theorem jf6:((Rows.traceReflexRow.stops==[]))=true:=by kernel_rfl
theorem jf7:((Tryz.prog.stops==[]))=true:=by kernel_rfl
theorem jf8:((Rows.traceReflexRow.knobs==[]))=true:=by kernel_rfl
theorem jf9:((Tryz.prog.stopKnobs==[]))=true:=by kernel_rfl
theorem jf10:((Rows.traceReflexRow.inPlace==Tryz.prog.inPlace 4))=true:=by kernel_rfl
theorem jf11:((Rows.traceReflexRow.unfollowed==Tryz.prog.unfollowed 4))=true:=by kernel_rfl
theorem jf12:((Rows.traceReflexRow.recurses==Tryz.prog.recurses 4))=true:=by kernel_rfl
theorem jf13:((Rows.traceReflexRow.named==Tryz.prog.varsNamed 4))=true:=by kernel_rfl
theorem jf14:((Rows.traceReflexRow.maps==(Tryz.f4.params.toList++Rows.traceReflexSpec.plain.varTypes aC).any (Tryz.prog.mapsRec ·)))=true:=by kernel_rfl
theorem jf15:((Rows.traceReflexRow.ifaces==(Tryz.f4.params.toList++Rows.traceReflexSpec.plain.varTypes aC).any (Tryz.prog.ifacesRec ·)))=true:=by kernel_rfl
theorem jf16:((Rows.traceReflexRow.mapsOut==Tryz.prog.mapsAmong Tryz.f4.resultTypes.toList))=true:=by kernel_rfl
theorem jf17:((Rows.traceReflexRow.loops==(Tryz.f4.params.toList++Rows.traceReflexSpec.plain.varTypes aC).any (Tryz.prog.loopsFrom ·)))=true:=by kernel_rfl
theorem jf18:((Rows.traceReflexRow.wideKeys==(Tryz.f4.params.toList++Rows.traceReflexSpec.plain.varTypes aC++Tryz.f4.resultTypes.toList).any (Tryz.prog.wideKeysFrom ·)))=true:=by kernel_rfl
theorem jf19:(Rows.traceReflexSpec.vars.all (Tryz.prog.varReadable ·))=true:=by kernel_rfl
theorem jf20:(Tryz.f4.resultTypes.all (fun t=>Tryz.prog.readableRec t&&decide (t<Tryz.prog.types.size)))=true:=by kernel_rfl
theorem jf21:((Rows.traceReflexRow.ifacesOut==Tryz.f4.resultTypes.toList.any (Tryz.prog.ifacesRec ·)))=true:=by kernel_rfl
theorem jf22:((Rows.traceReflexRow.loopsOut==Tryz.f4.resultTypes.toList.any (Tryz.prog.loopsFrom ·)))=true:=by kernel_rfl
theorem jf23:((Rows.traceReflexRow.plainKeys==Tryz.prog.plainKeys))=true:=by kernel_rfl
theorem jf24:(Rows.traceReflexRow.shortTexts.isNone)=true:=by kernel_rfl
theorem jf25:(Tryz.prog.stopsHeard)=true:=by kernel_rfl
theorem jf26:(Tryz.prog.mayEnter)=true:=by kernel_rfl
theorem jf27:((Rows.traceReflexRow.lifted==Tryz.prog.liftsFinal))=true:=by kernel_rfl
theorem jf28:((Tryz.prog.make==some Rows.traceReflexRow.make))=true:=by kernel_rfl
theorem jf29:((Rows.traceReflexRow.kinds==(if Rows.traceReflexRow.domain.isEmpty then[]else Tryz.f4.params.toList.map fun t=>match Tryz.prog.underlying t with |some (.int k)=>some k|_=>none)))=true:=by kernel_rfl
theorem jf30:((Rows.traceReflexRow.pinned==Rows.traceReflexRow.pinnedBy))=true:=by kernel_rfl
theorem jf31:((Rows.traceReflexRow.veiled==(Tryz.f4.params.toList++Rows.traceReflexSpec.plain.varTypes aC++Tryz.f4.resultTypes.toList).any (Tryz.prog.veiledRec ·)))=true:=by kernel_rfl
theorem jf32:(Rows.traceReflexRow.veiledFits aC Tryz.f4.params.toList (Tryz.f4.params.toList++Rows.traceReflexSpec.plain.varTypes aC++Tryz.f4.resultTypes.toList))=true:=by kernel_rfl
theorem jf:joinedFacts aC 4 Tryz.f4 Rows.traceReflexSpec Rows.traceReflexRow=true:=by
 unfold joinedFacts;refine Bool.and_eq_true_iff.2 ⟨?_,jf32⟩;refine Bool.and_eq_true_iff.2 ⟨?_,jf31⟩;refine Bool.and_eq_true_iff.2 ⟨?_,jf30⟩;refine Bool.and_eq_true_iff.2 ⟨?_,jf29⟩;refine Bool.and_eq_true_iff.2 ⟨?_,jf28⟩;refine Bool.and_eq_true_iff.2 ⟨?_,jf27⟩;refine Bool.and_eq_true_iff.2 ⟨?_,jf26⟩;refine Bool.and_eq_true_iff.2 ⟨?_,jf25⟩;refine Bool.and_eq_true_iff.2 ⟨?_,jf24⟩;refine Bool.and_eq_true_iff.2 ⟨?_,jf23⟩;refine Bool.and_eq_true_iff.2 ⟨?_,jf22⟩;refine Bool.and_eq_true_iff.2 ⟨?_,jf21⟩;refine Bool.and_eq_true_iff.2 ⟨?_,jf20⟩;refine Bool.and_eq_true_iff.2 ⟨?_,jf19⟩;refine Bool.and_eq_true_iff.2 ⟨?_,jf18⟩;refine Bool.and_eq_true_iff.2 ⟨?_,jf17⟩;refine Bool.and_eq_true_iff.2 ⟨?_,jf16⟩;refine Bool.and_eq_true_iff.2 ⟨?_,jf15⟩;refine Bool.and_eq_true_iff.2 ⟨?_,jf14⟩;refine Bool.and_eq_true_iff.2 ⟨?_,jf13⟩;refine Bool.and_eq_true_iff.2 ⟨?_,jf12⟩;refine Bool.and_eq_true_iff.2 ⟨?_,jf11⟩;refine Bool.and_eq_true_iff.2 ⟨?_,jf10⟩;refine Bool.and_eq_true_iff.2 ⟨?_,jf9⟩;refine Bool.and_eq_true_iff.2 ⟨?_,jf8⟩;refine Bool.and_eq_true_iff.2 ⟨?_,jf7⟩;refine Bool.and_eq_true_iff.2 ⟨?_,jf6⟩;refine Bool.and_eq_true_iff.2 ⟨?_,jf5⟩;refine Bool.and_eq_true_iff.2 ⟨?_,jf4⟩;refine Bool.and_eq_true_iff.2 ⟨?_,jf3⟩;refine Bool.and_eq_true_iff.2 ⟨?_,jf2⟩;exact jf1
end
end Go.Proofs.YtckgmoobicmbnaaGreatDoor
