import Derived.Test.YtkchhginppjaiaaGreatDoorRows
import Derived.JoinedOf
import Derived.Test.YtkchhginppjaiaaGreatDoorZ0
namespace Go.Proofs.YtkchhginppjaiaaGreatDoor
set_option maxRecDepth 100000
set_option maxHeartbeats 8000000
set_option linter.all false
open Go.Proofs.Tryz
open Go.OpenSpec renaming ofChange->qF
open Go.Proofs.Tryz renaming prog->aE
section
open Go
theorem jf1:(Rows.traceBeginRow.wf (qF Rows.traceBeginSpec))=true:=by kernel_rfl
theorem jf2:(laidOutB aE)=true:=by kernel_rfl
theorem jf3:(mapsRowed aE)=true:=by kernel_rfl
theorem jf4:(Tryz.f3.params.all (Tryz.prog.readableRec ·))=true:=by kernel_rfl
theorem jf5:(namedTie aE Rows.traceBeginRow.named Rows.traceBeginSpec.vars)=true:=by kernel_rfl
theorem jf6:((Rows.traceBeginRow.stops==[]))=true:=by kernel_rfl
theorem jf7:((Tryz.prog.stops==[]))=true:=by kernel_rfl
theorem jf8:((Rows.traceBeginRow.knobs==[]))=true:=by kernel_rfl
theorem jf9:((Tryz.prog.stopKnobs==[]))=true:=by kernel_rfl
theorem jf10:((Rows.traceBeginRow.inPlace==Tryz.prog.inPlace 3))=true:=by kernel_rfl
theorem jf11:((Rows.traceBeginRow.unfollowed==Tryz.prog.unfollowed 3))=true:=by kernel_rfl
theorem jf12:((Rows.traceBeginRow.recurses==Tryz.prog.recurses 3))=true:=by kernel_rfl
theorem jf13:((Rows.traceBeginRow.named==Tryz.prog.varsNamed 3))=true:=by kernel_rfl
theorem jf14:((Rows.traceBeginRow.maps==(Tryz.f3.params.toList++Rows.traceBeginSpec.plain.varTypes aE).any (Tryz.prog.mapsRec ·)))=true:=by kernel_rfl
theorem jf15:((Rows.traceBeginRow.ifaces==(Tryz.f3.params.toList++Rows.traceBeginSpec.plain.varTypes aE).any (Tryz.prog.ifacesRec ·)))=true:=by kernel_rfl
theorem jf16:((Rows.traceBeginRow.mapsOut==Tryz.prog.mapsAmong Tryz.f3.resultTypes.toList))=true:=by kernel_rfl
theorem jf17:((Rows.traceBeginRow.loops==(Tryz.f3.params.toList++Rows.traceBeginSpec.plain.varTypes aE).any (Tryz.prog.loopsFrom ·)))=true:=by kernel_rfl
theorem jf18:((Rows.traceBeginRow.wideKeys==(Tryz.f3.params.toList++Rows.traceBeginSpec.plain.varTypes aE++Tryz.f3.resultTypes.toList).any (Tryz.prog.wideKeysFrom ·)))=true:=by kernel_rfl
theorem jf19:(Rows.traceBeginSpec.vars.all (Tryz.prog.varReadable ·))=true:=by kernel_rfl
theorem jf20:(Tryz.f3.resultTypes.all (fun t=>Tryz.prog.readableRec t&&decide (t<Tryz.prog.types.size)))=true:=by kernel_rfl
theorem jf21:((Rows.traceBeginRow.ifacesOut==Tryz.f3.resultTypes.toList.any (Tryz.prog.ifacesRec ·)))=true:=by kernel_rfl
theorem jf22:((Rows.traceBeginRow.loopsOut==Tryz.f3.resultTypes.toList.any (Tryz.prog.loopsFrom ·)))=true:=by kernel_rfl
theorem jf23:((Rows.traceBeginRow.plainKeys==Tryz.prog.plainKeys))=true:=by kernel_rfl
theorem jf24:(Rows.traceBeginRow.shortTexts.isNone)=true:=by kernel_rfl
theorem jf25:(Tryz.prog.stopsHeard)=true:=by kernel_rfl
theorem jf26:(Tryz.prog.mayEnter)=true:=by kernel_rfl
theorem jf27:((Rows.traceBeginRow.lifted==Tryz.prog.liftsFinal))=true:=by kernel_rfl
theorem jf28:((Tryz.prog.make==some Rows.traceBeginRow.make))=true:=by kernel_rfl
theorem jf29:((Rows.traceBeginRow.kinds==(if Rows.traceBeginRow.domain.isEmpty then[]else Tryz.f3.params.toList.map fun t=>match Tryz.prog.underlying t with |some (.int k)=>some k|_=>none)))=true:=by kernel_rfl
theorem jf30:((Rows.traceBeginRow.pinned==Rows.traceBeginRow.pinnedBy))=true:=by kernel_rfl
theorem jf31:((Rows.traceBeginRow.veiled==(Tryz.f3.params.toList++Rows.traceBeginSpec.plain.varTypes aE++Tryz.f3.resultTypes.toList).any (Tryz.prog.veiledRec ·)))=true:=by kernel_rfl
theorem jf32:(Rows.traceBeginRow.veiledFits aE Tryz.f3.params.toList (Tryz.f3.params.toList++Rows.traceBeginSpec.plain.varTypes aE++Tryz.f3.resultTypes.toList))=true:=by kernel_rfl
theorem jf:joinedFacts aE 3 Tryz.f3 Rows.traceBeginSpec Rows.traceBeginRow=true:=by
 unfold joinedFacts;refine Bool.and_eq_true_iff.2 ⟨?_,jf32⟩;refine Bool.and_eq_true_iff.2 ⟨?_,jf31⟩;refine Bool.and_eq_true_iff.2 ⟨?_,jf30⟩;refine Bool.and_eq_true_iff.2 ⟨?_,jf29⟩;refine Bool.and_eq_true_iff.2 ⟨?_,jf28⟩;refine Bool.and_eq_true_iff.2 ⟨?_,jf27⟩;refine Bool.and_eq_true_iff.2 ⟨?_,jf26⟩;refine Bool.and_eq_true_iff.2 ⟨?_,jf25⟩;refine Bool.and_eq_true_iff.2 ⟨?_,jf24⟩;refine Bool.and_eq_true_iff.2 ⟨?_,jf23⟩;refine Bool.and_eq_true_iff.2 ⟨?_,jf22⟩;refine Bool.and_eq_true_iff.2 ⟨?_,jf21⟩;refine Bool.and_eq_true_iff.2 ⟨?_,jf20⟩;refine Bool.and_eq_true_iff.2 ⟨?_,jf19⟩;refine Bool.and_eq_true_iff.2 ⟨?_,jf18⟩;refine Bool.and_eq_true_iff.2 ⟨?_,jf17⟩;refine Bool.and_eq_true_iff.2 ⟨?_,jf16⟩;refine Bool.and_eq_true_iff.2 ⟨?_,jf15⟩;refine Bool.and_eq_true_iff.2 ⟨?_,jf14⟩;refine Bool.and_eq_true_iff.2 ⟨?_,jf13⟩;refine Bool.and_eq_true_iff.2 ⟨?_,jf12⟩;refine Bool.and_eq_true_iff.2 ⟨?_,jf11⟩;refine Bool.and_eq_true_iff.2 ⟨?_,jf10⟩;refine Bool.and_eq_true_iff.2 ⟨?_,jf9⟩;refine Bool.and_eq_true_iff.2 ⟨?_,jf8⟩;refine Bool.and_eq_true_iff.2 ⟨?_,jf7⟩;refine Bool.and_eq_true_iff.2 ⟨?_,jf6⟩;refine Bool.and_eq_true_iff.2 ⟨?_,jf5⟩;refine Bool.and_eq_true_iff.2 ⟨?_,jf4⟩;refine Bool.and_eq_true_iff.2 ⟨?_,jf3⟩;refine Bool.and_eq_true_iff.2 ⟨?_,jf2⟩;exact jf1
end
end Go.Proofs.YtkchhginppjaiaaGreatDoor
