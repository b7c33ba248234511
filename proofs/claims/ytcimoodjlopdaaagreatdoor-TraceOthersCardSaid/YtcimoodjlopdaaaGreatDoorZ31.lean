/-
  kingpostlaw18.TraceOthers answers true for every input and leaves its arguments as they were: for any fronts, loops, levels and index the program's Points, Area, Move and Reflex answer what the reference's answer, and the chapter's example is so.
  Conditions: those of the given row alone (the package-level variables start as the program's text lays them; the card ties them; the arguments share no memory). Axioms: propext, Classical.choice, Quot.sound.
-/
import Derived.Test.YtcimoodjlopdaaaGreatDoorCards
import Derived.Test.YtcimoodjlopdaaaGreatDoorTie
import Derived.SevenTiedAt
import Derived.Test.YtcimoodjlopdaaaGreatDoorZ0
import Derived.Test.YtcimoodjlopdaaaGreatDoorZ29
import Derived.Test.YtcimoodjlopdaaaGreatDoorZ30
namespace Go.Proofs.YtcimoodjlopdaaaGreatDoor
set_option maxRecDepth 100000
set_option maxHeartbeats 8000000
set_option linter.all false
open Go.Proofs.Tryz
open Go.OpenSpec renaming ofChange->Ds
open Go.Proofs.Tryz renaming f3->WE
open Option.some renaming inj->vI
section
open Go Go.RowKit
theorem TN:Tryz.pinned.checked.prog.funcNamed Rows.traceOthersRow.func=some 3:=by kernel_rfl
theorem zz_inst:Tryz.f3.isInstance Tryz.pinned.checked.prog Rows.traceOthersRow.origin Rows.traceOthersRow.targs:=of_decide_eq_true (by kernel_rfl)
theorem zz_wrap:Tryz.f3.isWrapper Tryz.pinned.checked.prog Rows.traceOthersRow.wrapper Rows.traceOthersRow.mainSum:=by
 unfold Func.isWrapper;first |(rw[ip (by decide+kernel)];kernel_rfl)|(rw[iN (by decide+kernel)];exact⟨rfl,rfl⟩)
theorem G9:Rows.TraceOthersSaid:=
 OpenClaim.holds_of_wide 3 WE rfl rfl rfl rfl rfl rfl rfl ⟨rfl,rfl,rfl,rfl,rfl⟩ rfl rfl rfl rfl rfl TN func3 jf zz_inst zz_wrap
  (fun os G8 H enc _=>lifted os G8 H enc)
theorem zz_text:Rows.traceOthersRow.wfByText (Ds Rows.traceOthersSpec)=true:=by kernel_rfl
theorem zz_main:Tryz.pinned.checked.prog.mainIs=some (true,"b6aa385fdeab11f5f4849291450074f413a0889395a6bdbe71862b57e7413ff4".toList):=by kernel_rfl
theorem rj:true=Tryz.prog.looks []:=by kernel_rfl
theorem rk:([22,23,24,24,3].all fun u=> !Tryz.prog.wantsStandIn u)=true:=by kernel_rfl
theorem zz_goes:false=Rows.traceOthersRow.goesBy Tryz.pinned.checked.prog:=by kernel_rfl
theorem traceOthers_card:Rows.TraceOthersCardSaid:=
 Claim7.holds_tied_plain_at .later [] [.data,.data,.data,.data,.sentinel,.sentinel,.pinned] true (true,"b6aa385fdeab11f5f4849291450074f413a0889395a6bdbe71862b57e7413ff4") true
  G9 (fun _ h=>by cases h) zz_text (fun _ h=>by cases h) traceOthers_row_tie rfl ⟨rfl,rfl⟩ zz_main rfl
  (fun f fn hf YQ=>by
   obtain rfl:f=3:=(vI (TN.symm.trans hf)).symm
   obtain rfl:fn=WE:=(vI (func3.symm.trans YQ)).symm
   exact⟨rj,fun j t ht=>by
    rw[Fx]at ht
    have hm:t∈[22,23,24,24,3]:=by simpa using Array.mem_of_getElem? ht
    exact(show Tryz.prog.wantsStandIn t=false by simpa using List.all_eq_true.1 rk t hm)⟩)
  zz_goes
end
end Go.Proofs.YtcimoodjlopdaaaGreatDoor
