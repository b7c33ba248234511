import Derived.Test.YtkchhginppjaiaaGreatDoorRows
import Derived.Test.YtkchhginppjaiaaGreatDoorCards
import Derived.Test.YtkchhginppjaiaaGreatDoorTie
import Derived.ProofKit
import Derived.Lay
import Derived.LaidSub
import Derived.Carry
import Derived.OpenShut
import Derived.HandedShaped
import Derived.MakeChecks
import Derived.Shelf.Vars
import Derived.SevenTiedAt
import Derived.SizedLaws
import Derived.Test.YtkchhginppjaiaaGreatDoorZ0
import Derived.Test.YtkchhginppjaiaaGreatDoorZ12
namespace Go.Proofs.YtkchhginppjaiaaGreatDoor
set_option maxRecDepth 100000
set_option maxHeartbeats 8000000
set_option linter.all false
open Go.Proofs.Tryz
open _root_.Go renaming World->aF,Value->aP,TypeId->dT,reachBytes->nK,laidMetH->Iq,MemPlace->Oi,DataW->Sz
open Go.DataW renaming weightsEach->sZ
open Go.Ending renaming returned->bA
open Go.MakeChecks renaming laidMetH_plain->wE
open Go.OpenSpec renaming ofChange->qF
open Go.Proofs.Tryz renaming prog->aE,checked->VU,f3->YN
open Go.Value renaming okWide->SC
open _root_.Option.some renaming inj->eG
section
open Go Go.RowKit Go.Lib Go.ChangeShapes Go.WideShapes
theorem zz_own:ownKnob Tryz.prog.godebug=none:=by kernel_rfl
theorem YE:laidOutB aE=true:=by kernel_rfl
theorem pow_tab:(Rows.laid_internal_strconv_uint64pow10:Sz Unit)=Lib.tabData .u64 Lib.pow10Tab:=by kernel_rfl
theorem env_of{W:aF}(hL:Iq aE Rows.traceBeginRow.laid W)(hS:W.ShapedOpen aE):mN W:=by
 constructor
 ·have h:=hL.filter (fun x=>x.1==vn);have e:(Rows.traceBeginRow.laid.filter fun x=>x.1==vn)=[(vn,Lib.tabData .u64 Lib.pow10Tab)]:=by
   rw[←pow_tab];kernel_rfl
  rw[e,wE _ _ _ (by kernel_rfl)]at h;exact tabIs_of_head (g:=1) (t:=316) (e:=287) (n:=20) (by kernel_rfl) (by kernel_rfl) (by kernel_rfl) (by kernel_rfl) (by kernel_rfl) (by kernel_rfl) h
 ·exact cell_of_shapedOpen_int (t:=3) (zero:= #[.int .i64 0]) hS (of_decide_eq_true (by kernel_rfl)) (by kernel_rfl) (by kernel_rfl) (by kernel_rfl) (by kernel_rfl) (by kernel_rfl)
theorem dirt_of{W:aF}(hL:Iq aE Rows.traceBeginRow.laid W):MU W:=by
 have h:=hL.filter (fun x=>x.1==dirN);have e:(Rows.traceBeginRow.laid.filter fun x=>x.1==dirN)=[(dirN,DataW.agg [Vy false 1,Vy true (-1),Vy false (-1),Vy true 1])]:=by kernel_rfl
 rw[e,wE _ _ _ (by kernel_rfl)]at h;exact dir_of (by kernel_rfl) (by kernel_rfl) h
theorem N7{H:Type}{enc:dT×aP→H}{a:Assume}{C:Checked}{os:Os}{f:FuncId}{fn:Func}{s:ChangeSpec}{conds:List PathCond}{apart fresh bc again:Bool}{X:aF→Array aP→Prop}
 (hX:∀(w w':aF)(args:Array aP),w.heap=w'.heap→X w args→X w' args)
 (own:ownKnob C.prog.godebug=none)(G3:os.Started)(noInit:C.prog.inits.idxOf? f=none)(hfn:C.prog.funcs[f]? =some fn)
 (witness:∃(w:aF)(tape:Tape)(i:Input),w.os=os∧(w.forCall tape i).Shaped C.prog∧i.vars=[]∧Input.okWide C.prog (w.forCall tape i) .any w.heap.size f i∧
  ((s.pre enc C.prog fn conds apart (w.forCall tape i).memory i.args∧X (w.forCall tape i).memory i.args)∧sizedMet enc C.prog fn (qF s) apart (w.forCall tape i).memory i.args)∧a.holds C.prog (lone (Frame.enter C.prog f i.args .normal) [] (w.forCall tape i)))
 (contract:∀(W:aF)(cL:Nat)(args:Array aP)(ds gs:List (Sz H))(Jn:List Oi),(∀(j:Nat)t v,fn.params[j]? =some t→args[j]? =some v→SC C.prog W .any cL t v)→
  DataW.Whole enc C.prog fn.params.toList s.vars apart W args.toList ds gs Jn→(sZ C.prog (fn.params.toList++(qF s).bare.plain.varTypes C.prog) (ds++gs)).all (·≤nK)=true→X W args→W.ShapedOpen C.prog→
  Calls C.prog f args W fun e W'=>∃v,e=bA v∧s.post enc C.prog fn apart fresh bc again W args v W'):
 ReturnsInHanded a C os f .any (fun w args=>(s.pre enc C.prog fn conds apart w args∧X w args)∧sizedMet enc C.prog fn (qF s) apart w args) (s.post enc C.prog fn apart fresh bc again):=by
 refine returnsInHanded_of_calls own G3 noInit witness ?_;intro w tape i _ rJ _ Cd hpre _;obtain⟨_,_,_,fn',hfn',_,_,_,_,oh⟩:=Cd;have e:fn'=fn:=eG (hfn'.symm.trans hfn);subst e;obtain⟨⟨⟨ds,gs,Jn,hw,_⟩,hx⟩,hz⟩:=hpre;have hz':=hz.weights hw;have hw':=DataW.Whole.of_heap (w':=w.forCall tape i) (by rfl) hw;refine(contract (w.forCall tape i) w.heap.size i.args ds gs Jn oh hw' hz' (hX _ _ _ (by rfl) hx) rJ).mono fun e W'⟨v,he,hp⟩=>?_;subst he;exact ChangeSpec.post_blind hp
theorem Fw:Tryz.f3.params= #[24]:=by kernel_rfl
theorem law_call{H:Type}{enc:dT×aP→H}{W:aF}{cL:Nat}{args:Array aP}{ds gs:List (Sz H)}{Jn:List Oi}
 (oh:∀(j:Nat)t v,Tryz.f3.params[j]? =some t→args[j]? =some v→SC aE W .any cL t v)
 (hW:DataW.Whole enc aE Tryz.f3.params.toList Rows.traceBeginSpec.vars false W args.toList ds gs Jn)
 (hz:(sZ aE (Tryz.f3.params.toList++(qF Rows.traceBeginSpec).bare.plain.varTypes aE) (ds++gs)).all (·≤nK)=true)
 (hL:Iq aE Rows.traceBeginRow.laid W)(hS:W.ShapedOpen aE):
 Calls aE 3 args W fun e W'=>∃v,e=bA v∧Rows.traceBeginSpec.post enc aE YN false true false false W args v W':=by
 have hE:=env_of hL hS;have hD:=dirt_of hL;have hlt:=fun p hp=>DataW.Whole.lt hW p hp;have eY:=hW;obtain⟨p,q,hA,hV,rfl,-,-⟩:=hW;rw[Fw]at hA oh hz;obtain⟨rfl,rfl⟩:=trodVars_none hV;obtain⟨v0,vs0,x0,ds0,p0,q0,ea0,rfl,rfl,h0,hA0⟩:=trodAll_cons hA;clear hA;obtain⟨rfl,rfl,rfl⟩:=trodAll_nil hA0;obtain⟨args⟩:=args;simp only[]at ea0;subst ea0;have hv:=oh 0 24 v0 rfl rfl;unfold SC at hv;rw[underlying24]at hv;obtain⟨cs0,rfl,-,-⟩:=hv;have g0:=h0;obtain⟨n0,t0⟩:=h0;obtain⟨a,n,ca,rs,c0,hl,hca,qh,rr,hrs⟩:=og t0 (fun k hk=>of_decide_eq_true (List.all_eq_true.1 hz k (by
  show k∈sZ aE (24::_) (x0::_);rw[sZ];exact List.mem_append_left _ hk)))
 obtain⟨cs0⟩:=cs0;have c0:cs0=[.slice a n ca]:=c0;subst c0;have qJ:n≤40→cE (bF rs) n≤9223372036854775807:=fun h40=>by
  have key:∀k,k≤n→cE (bF rs) k≤k*140737488351232:=by
   intro k;induction k with
   |zero=>intro _;simp[cE]
   |succ k ih=>
    intro hk;have h1:=ih (by omega);have h2:(bF rs k).length*56≤nK:=hrs _ (bU (by omega) default);have h3:nK=140737488351232:=rfl;rw[cE,Nat.succ_mul];omega
  have:=key n (Nat.le_refl _);have h5:n*140737488351232≤40*140737488351232:=Nat.mul_le_mul_right _ h40;omega
 have hw:=Nd a n ca rs W hE hD hl qJ (by unfold maxLen at qh;omega) rr;refine hw.mono ?_;rintro e W'⟨rfl,hb⟩;have row:∀(t:dT)(v:aP)(d:Sz H)(ps:List Oi),Tryz.prog.readableRec t=true→t<Tryz.prog.types.size→DataW.Trod enc aE W 0 (fun _=>true) true t v d ps→(∀x∈ps,x.block<W.heap.size)→DataW.Trod enc aE W' 0 (fun b=>decide (b<W.heap.size)) true t v d ps:=fun t v d ps hr ht h hlt=>
  Below.trod YE hr ht h hb hlt
 refine⟨_,rfl,_,_,_,[],p0++[],[],eY,?_,?_,rfl,hb.frame _,fun h=>by cases h⟩
 ·exact trodAll_mk1 (shut_bool underlying4 _)
 ·show DataW.TrodAll enc aE W' 0 _ true Tryz.f3.params.toList _ [x0] _;rw[Fw];exact⟨p0,[],row _ _ _ _ (by kernel_rfl) (of_decide_eq_true (by kernel_rfl)) g0 (fun x hx=>hlt x (by simp[hx])),rfl,rfl⟩
theorem laid_met(os:Os)(args:Array aP):Iq aE Rows.traceBeginRow.laid ((World.laidAll aE os Rows.traceBeginRow.laid).forCall (fun _ _=>0) ⟨#[],args,[]⟩).memory:=by
 rw[wE _ _ _ (by kernel_rfl)];exact laidMet_laidAll args (by kernel_rfl) (by kernel_rfl)
theorem lifted(os:Os)(G3:os.Started)(H:Type)(enc:dT×aP→H):
 ReturnsInHanded {} VU os 3 .any (fun w args=>(Rows.traceBeginSpec.pre enc aE YN [] false w args∧Iq aE Rows.traceBeginRow.laid w)∧sizedMet enc aE YN (qF Rows.traceBeginSpec) false w args)
  (Rows.traceBeginSpec.post enc aE YN false true false false):=by
 refine N7 (C:=VU) (X:=fun w _=>Iq aE Rows.traceBeginRow.laid w) (fun _ _ _ hh h=>h.of_heap hh) zz_own G3 (by kernel_rfl) func3
  (ChangeSpec.witness_shaped (enc:=enc) (C:=VU) (os:=os) (X:=fun w _=>Iq aE Rows.traceBeginRow.laid w) false (World.laidAll aE os Rows.traceBeginRow.laid) #[.agg #[.slice none 0 0]] 8 (World.laidAll_os _ _ _)
   (World.shaped_of_ZipB (by kernel_rfl) (by kernel_rfl)) (by kernel_rfl) (by kernel_rfl) (by kernel_rfl) (laid_met os _)) ?_
 intro W cL args ds gs Jn oh hW hz hL hS;exact law_call oh hW hz hL hS
end
end Go.Proofs.YtkchhginppjaiaaGreatDoor
