/-
  kingpostlaw18.TraceReflex answers true for every input and leaves its argument as it was: for any valid plan of up to 12 sides each part of the loops that Begin answers is a reflex corner exactly where the plan's side is not convex, and the chapter's example is so.
  Conditions: those of the given row alone (the package-level variables start as the program's text lays them; the card ties them; strings and slices within the form's reach). Axioms: propext, Classical.choice, Quot.sound.
-/
import Derived.Test.YtckgmoobicmbnaaGreatDoorCards
import Derived.Test.YtckgmoobicmbnaaGreatDoorTie
import Derived.SevenTiedAt
import Derived.Test.YtckgmoobicmbnaaGreatDoorZ0
import Derived.Test.YtckgmoobicmbnaaGreatDoorZ16
import Derived.Test.YtckgmoobicmbnaaGreatDoorZ17
namespace Go.Proofs.YtckgmoobicmbnaaGreatDoor
set_option maxRecDepth 100000
set_option maxHeartbeats 8000000
set_option linter.all false
open Go.Proofs.Tryz
open Go.OpenSpec renaming ofChange->qZ
open Go.Proofs.Tryz renaming f4->XR
open _root_.Option.some renaming inj->dQ
section
open Go Go.RowKit
theorem UE:Tryz.pinned.checked.prog.funcNamed Rows.traceReflexRow.func=some 4:=by kernel_rfl
theorem zz_inst:Tryz.f4.isInstance Tryz.pinned.checked.prog Rows.traceReflexRow.origin Rows.traceReflexRow.targs:=of_decide_eq_true (by kernel_rfl)
theorem zz_wrap:Tryz.f4.isWrapper Tryz.pinned.checked.prog Rows.traceReflexRow.wrapper Rows.traceReflexRow.mainSum:=by
 unfold Func.isWrapper;first |(rw[ip (by decide+kernel)];kernel_rfl)|(rw[iN (by decide+kernel)];exact⟨rfl,rfl⟩)
theorem GY:Rows.TraceReflexSaid:=
 OpenClaim.holds_of_wide 4 XR rfl rfl rfl rfl rfl rfl rfl ⟨rfl,rfl,rfl,rfl,rfl⟩ rfl rfl rfl rfl rfl UE func4 jf zz_inst zz_wrap
  (fun os GX H enc _=>lifted os GX H enc)
theorem zz_text:Rows.traceReflexRow.wfByText (qZ Rows.traceReflexSpec)=true:=by kernel_rfl
theorem zz_main:Tryz.pinned.checked.prog.mainIs=some (true,"3efab431eae8fd57488032b4d617096eeefc6e19c6d259ad3eebb09448dc59aa".toList):=by kernel_rfl
theorem zi:true=Tryz.prog.looks []:=by kernel_rfl
theorem zj:([24].all fun u=> !Tryz.prog.wantsStandIn u)=true:=by kernel_rfl
theorem zz_goes:false=Rows.traceReflexRow.goesBy Tryz.pinned.checked.prog:=by kernel_rfl
theorem traceReflex_card:Rows.TraceReflexCardSaid:=
 Claim7.holds_tied_plain_at .later [] [.data,.data,.data,.data,.sentinel,.sentinel,.data,.pinned] true (true,"3efab431eae8fd57488032b4d617096eeefc6e19c6d259ad3eebb09448dc59aa") true
  GY (fun _ h=>by cases h) zz_text (fun _ h=>by cases h) traceReflex_row_tie rfl ⟨rfl,rfl⟩ zz_main rfl
  (fun f fn hf Zt=>by
   obtain rfl:f=4:=(dQ (UE.symm.trans hf)).symm
   obtain rfl:fn=XR:=(dQ (func4.symm.trans Zt)).symm
   exact⟨zi,fun j t ht=>by
    rw[Fq]at ht
    have hm:t∈[24]:=by simpa using Array.mem_of_getElem? ht
    exact(show Tryz.prog.wantsStandIn t=false by simpa using List.all_eq_true.1 zj t hm)⟩)
  zz_goes
end
end Go.Proofs.YtckgmoobicmbnaaGreatDoor
