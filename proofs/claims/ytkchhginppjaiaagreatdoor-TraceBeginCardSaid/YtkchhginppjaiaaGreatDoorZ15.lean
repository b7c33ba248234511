/-
  TraceBegin answers true for every plan, in the tied card's form. Conditions: none beyond the given statement's own.
-/
import Derived.Test.YtkchhginppjaiaaGreatDoorCards
import Derived.Test.YtkchhginppjaiaaGreatDoorTie
import Derived.SevenTiedAt
import Derived.Test.YtkchhginppjaiaaGreatDoorZ0
import Derived.Test.YtkchhginppjaiaaGreatDoorZ13
import Derived.Test.YtkchhginppjaiaaGreatDoorZ14
namespace Go.Proofs.YtkchhginppjaiaaGreatDoor
set_option maxRecDepth 100000
set_option maxHeartbeats 8000000
set_option linter.all false
open Go.Proofs.Tryz
open Go.OpenSpec renaming ofChange->qF
open Go.Proofs.Tryz renaming f3->YN
open _root_.Option.some renaming inj->eG
section
open Go Go.RowKit
theorem Vz:Tryz.pinned.checked.prog.funcNamed Rows.traceBeginRow.func=some 3:=by kernel_rfl
theorem zz_inst:Tryz.f3.isInstance Tryz.pinned.checked.prog Rows.traceBeginRow.origin Rows.traceBeginRow.targs:=of_decide_eq_true (by kernel_rfl)
theorem zz_wrap:Tryz.f3.isWrapper Tryz.pinned.checked.prog Rows.traceBeginRow.wrapper Rows.traceBeginRow.mainSum:=by
 unfold Func.isWrapper;first |(rw[ip (by decide+kernel)];kernel_rfl)|(rw[iN (by decide+kernel)];exact⟨rfl,rfl⟩)
theorem Jo:Rows.TraceBeginSaid:=
 OpenClaim.holds_of_wide 3 YN rfl rfl rfl rfl rfl rfl rfl ⟨rfl,rfl,rfl,rfl,rfl⟩ rfl rfl rfl rfl rfl Vz func3 jf zz_inst zz_wrap
  (fun os G3 H enc _=>lifted os G3 H enc)
theorem zz_text:Rows.traceBeginRow.wfByText (qF Rows.traceBeginSpec)=true:=by kernel_rfl
theorem zz_main:Tryz.pinned.checked.prog.mainIs=some (true,"0127020377a60ebf9fd03bcf3b0d73c13469f337ecef43202919ac6a927368d2".toList):=by kernel_rfl
theorem zz_looks:true=Tryz.prog.looks []:=by kernel_rfl
theorem zz_stand:([24].all fun u=> !Tryz.prog.wantsStandIn u)=true:=by kernel_rfl
theorem zz_goes:false=Rows.traceBeginRow.goesBy Tryz.pinned.checked.prog:=by kernel_rfl
theorem traceBegin_card:Rows.TraceBeginCardSaid:=
 Claim7.holds_tied_plain_at .later [] [.data,.data,.data,.data,.sentinel,.sentinel,.data,.pinned] true (true,"0127020377a60ebf9fd03bcf3b0d73c13469f337ecef43202919ac6a927368d2") true
  Jo (fun _ h=>by cases h) zz_text (fun _ h=>by cases h) traceBegin_row_tie rfl ⟨rfl,rfl⟩ zz_main rfl
  (fun f fn hf hfn=>by
   obtain rfl:f=3:=(eG (Vz.symm.trans hf)).symm
   obtain rfl:fn=YN:=(eG (func3.symm.trans hfn)).symm
   exact⟨zz_looks,fun j t ht=>by
    rw[Fw]at ht
    have hm:t∈[24]:=by simpa using Array.mem_of_getElem? ht
    exact(show Tryz.prog.wantsStandIn t=false by simpa using List.all_eq_true.1 zz_stand t hm)⟩)
  zz_goes
end
end Go.Proofs.YtkchhginppjaiaaGreatDoor
