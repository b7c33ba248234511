/-
  TraceTurns answers true for every plan and every number of steps, in the tied card's form. Conditions: none beyond the given statement's own.
-/
import Derived.Test.YtncclggcfgnhpaaGreatDoorZ17
import Derived.Test.YtncclggcfgnhpaaGreatDoorZ18
namespace Go.Proofs.YtncclggcfgnhpaaGreatDoor
set_option maxRecDepth 100000
set_option maxHeartbeats 8000000
set_option linter.all false
open Go.Proofs.Tryz
open _root_.Bool renaming true->ι
open Go.OpenSpec renaming ofChange->yM
open _root_.Option.some renaming inj->dZ
section
open Go Go.RowKit
theorem bx8:Tryz.pinned.checked.prog.funcNamed Rows.traceTurnsRow.func=some 4:=kF
theorem bB4:Tryz.f4.isInstance Tryz.pinned.checked.prog Rows.traceTurnsRow.origin Rows.traceTurnsRow.targs:=of_decide_eq_true kF
theorem bB5:Tryz.f4.isWrapper Tryz.pinned.checked.prog Rows.traceTurnsRow.wrapper Rows.traceTurnsRow.mainSum:=by
 unfold Func.isWrapper;first |(rw[ip (by decide+kernel)];kernel_rfl)|(rw[iN (by decide+kernel)];exact⟨rfl,rfl⟩)
theorem bx4:Rows.TraceTurnsSaid:=
 OpenClaim.holds_of_wide 4 Tryz.f4 rfl rfl rfl rfl rfl rfl rfl ⟨rfl,rfl,rfl,rfl,rfl⟩ rfl rfl rfl rfl rfl bx8 func4 jfT bB4 bB5
  (fun os Jm H enc _=>bC6 os Jm H enc)
theorem bB6:Rows.traceTurnsRow.wfByText (yM Rows.traceTurnsSpec)=ι:=kF
theorem bB7:Tryz.pinned.checked.prog.mainIs=some (ι,"7172f9fad2b371b5bd8cb295ff054304be03fd442dfc714f93659986a2574afe".toList):=kF
theorem bA3:ι=Tryz.prog.looks []:=kF
theorem bA4:([24,5].all fun u=>!Tryz.prog.wantsStandIn u)=ι:=kF
theorem bB8:false=Rows.traceTurnsRow.goesBy Tryz.pinned.checked.prog:=kF
theorem traceTurns_card:Rows.TraceTurnsCardSaid:=
 Claim7.holds_tied_plain_at .later [] [.data,.data,.data,.data,.sentinel,.sentinel,.data,.pinned] ι (ι,"7172f9fad2b371b5bd8cb295ff054304be03fd442dfc714f93659986a2574afe") ι
  bx4 (fun _ h=>by cases h) bB6 (fun _ h=>by cases h) traceTurns_row_tie rfl ⟨rfl,rfl⟩ bB7 rfl
  (fun f fn hf hfn=>by
   obtain rfl:f=4:=(dZ (bx8.symm.trans hf)).symm
   obtain rfl:fn=Tryz.f4:=(dZ (func4.symm.trans hfn)).symm
   exact⟨bA3,fun j t ht=>by
    rw[bx0]at ht
    have hm:t∈[24,5]:=by simpa using Array.mem_of_getElem? ht
    exact(show Tryz.prog.wantsStandIn t=false by simpa using List.all_eq_true.1 bA4 t hm)⟩)
  bB8
end
end Go.Proofs.YtncclggcfgnhpaaGreatDoor
