/-
  TraceAgain answers true for every plan and every two numbers, in the tied card's form. Conditions: none beyond the given statement's own.
-/
import Derived.Test.YtncclggcfgnhpaaGreatDoorZ14
import Derived.Test.YtncclggcfgnhpaaGreatDoorZ15
namespace Go.Proofs.YtncclggcfgnhpaaGreatDoor
set_option maxRecDepth 100000
set_option maxHeartbeats 8000000
set_option linter.all false
open Go.Proofs.Tryz
open _root_.Bool renaming true->ι
open Go.OpenSpec renaming ofChange->yM
open Go.Proofs.Tryz renaming f3->fe
open _root_.Option.some renaming inj->dZ
section
open Go Go.RowKit
theorem Sr:Tryz.pinned.checked.prog.funcNamed Rows.traceAgainRow.func=some 3:=kF
theorem aw7:Tryz.f3.isInstance Tryz.pinned.checked.prog Rows.traceAgainRow.origin Rows.traceAgainRow.targs:=of_decide_eq_true kF
theorem aw8:Tryz.f3.isWrapper Tryz.pinned.checked.prog Rows.traceAgainRow.wrapper Rows.traceAgainRow.mainSum:=by
 unfold Func.isWrapper;first |(rw[ip (by decide+kernel)];kernel_rfl)|(rw[iN (by decide+kernel)];exact⟨rfl,rfl⟩)
theorem KT:Rows.TraceAgainSaid:=
 OpenClaim.holds_of_wide 3 fe rfl rfl rfl rfl rfl rfl rfl ⟨rfl,rfl,rfl,rfl,rfl⟩ rfl rfl rfl rfl rfl Sr func3 jfA aw7 aw8
  (fun os Jm H enc _=>aM1 os Jm H enc)
theorem aw9:Rows.traceAgainRow.wfByText (yM Rows.traceAgainSpec)=ι:=kF
theorem ax0:Tryz.pinned.checked.prog.mainIs=some (ι,"7172f9fad2b371b5bd8cb295ff054304be03fd442dfc714f93659986a2574afe".toList):=kF
theorem zh:ι=Tryz.prog.looks []:=kF
theorem zi:([24,5,5].all fun u=>!Tryz.prog.wantsStandIn u)=ι:=kF
theorem ax1:false=Rows.traceAgainRow.goesBy Tryz.pinned.checked.prog:=kF
theorem traceAgain_card:Rows.TraceAgainCardSaid:=
 Claim7.holds_tied_plain_at .later [] [.data,.data,.data,.data,.sentinel,.sentinel,.data,.pinned] ι (ι,"7172f9fad2b371b5bd8cb295ff054304be03fd442dfc714f93659986a2574afe") ι
  KT (fun _ h=>by cases h) aw9 (fun _ h=>by cases h) traceAgain_row_tie rfl ⟨rfl,rfl⟩ ax0 rfl
  (fun f fn hf hfn=>by
   obtain rfl:f=3:=(dZ (Sr.symm.trans hf)).symm
   obtain rfl:fn=fe:=(dZ (func3.symm.trans hfn)).symm
   exact⟨zh,fun j t ht=>by
    rw[Ff]at ht
    have hm:t∈[24,5,5]:=by simpa using Array.mem_of_getElem? ht
    exact(show Tryz.prog.wantsStandIn t=false by simpa using List.all_eq_true.1 zi t hm)⟩)
  ax1
end
end Go.Proofs.YtncclggcfgnhpaaGreatDoor
