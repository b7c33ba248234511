import Derived.Test.YtckgmoobicmbnaaGreatDoorRows
import Derived.Test.YtckgmoobicmbnaaGreatDoorCards
import Derived.Test.YtckgmoobicmbnaaGreatDoorTie
import Derived.ProofKit
import Derived.Lay
import Derived.LaidSub
import Derived.Carry
import Derived.OpenShut
import Derived.HandedShaped
import Derived.MakeChecks
import Derived.Shelf.Vars
import Derived.SevenTiedAt
import Derived.SizedLaws
import Derived.Test.YtckgmoobicmbnaaGreatDoorZ0
import Derived.Test.YtckgmoobicmbnaaGreatDoorZ14
import Derived.Test.YtckgmoobicmbnaaGreatDoorZ15
namespace Go.Proofs.YtckgmoobicmbnaaGreatDoor
set_option maxRecDepth 100000
set_option maxHeartbeats 8000000
set_option linter.all false
open Go.Proofs.Tryz
open _root_.Go renaming World->aF,Value->aS,TypeId->eC,reachBytes->nJ,laidMetH->Io,MemPlace->NQ,DataW->RO
open Go.DataW renaming weightsEach->tR
open Go.Ending renaming returned->aQ
open Go.MakeChecks renaming laidMetH_plain->wP
open Go.OpenSpec renaming ofChange->qZ
open Go.Proofs.Tryz renaming prog->aC,checked->Vc,f4->XR
open Go.Value renaming okWide->RP
open _root_.Option.some renaming inj->dQ
section
open Go Go.RowKit Go.Lib Go.ChangeShapes Go.WideShapes
theorem zz_own:ownKnob Tryz.prog.godebug=none:=by kernel_rfl
theorem XH:laidOutB aC=true:=by kernel_rfl
theorem pow_tab:(Rows.laid_internal_strconv_uint64pow10:RO Unit)=Lib.tabData .u64 Lib.pow10Tab:=by kernel_rfl
theorem env_of{W:aF}(hL:Io aC Rows.traceReflexRow.laid W)(hS:W.ShapedOpen aC):iM W:=by
 constructor
 ·have h:=hL.filter (fun x=>x.1==nc);have e:(Rows.traceReflexRow.laid.filter fun x=>x.1==nc)=[(nc,Lib.tabData .u64 Lib.pow10Tab)]:=by
   rw[←pow_tab];kernel_rfl
  rw[e,wP _ _ _ (by kernel_rfl)]at h;exact tabIs_of_head (g:=1) (t:=340) (e:=303) (n:=20) (by kernel_rfl) (by kernel_rfl) (by kernel_rfl) (by kernel_rfl) (by kernel_rfl) (by kernel_rfl) h
 ·exact cell_of_shapedOpen_int (t:=3) (zero:= #[.int .i64 0]) hS (of_decide_eq_true (by kernel_rfl)) (by kernel_rfl) (by kernel_rfl) (by kernel_rfl) (by kernel_rfl) (by kernel_rfl)
theorem dirt_of{W:aF}(hL:Io aC Rows.traceReflexRow.laid W):Qy W:=by
 have h:=hL.filter (fun x=>x.1==zd);have e:(Rows.traceReflexRow.laid.filter fun x=>x.1==zd)=[(zd,DataW.agg [UD false 1,UD true (-1),UD false (-1),UD true 1])]:=by kernel_rfl
 rw[e,wP _ _ _ (by kernel_rfl)]at h;exact dir_of (by kernel_rfl) (by kernel_rfl) h
theorem NJ{H:Type}{enc:eC×aS→H}{a:Assume}{C:Checked}{os:Os}{f:FuncId}{fn:Func}{s:ChangeSpec}{conds:List PathCond}{apart fresh Y8 again:Bool}{X:aF→Array aS→Prop}
 (hX:∀(w w':aF)(args:Array aS),w.heap=w'.heap→X w args→X w' args)
 (own:ownKnob C.prog.godebug=none)(GX:os.Started)(noInit:C.prog.inits.idxOf? f=none)(Zt:C.prog.funcs[f]? =some fn)
 (witness:∃(w:aF)(tape:Tape)(i:Input),w.os=os∧(w.forCall tape i).Shaped C.prog∧i.vars=[]∧Input.okWide C.prog (w.forCall tape i) .any w.heap.size f i∧
  ((s.pre enc C.prog fn conds apart (w.forCall tape i).memory i.args∧X (w.forCall tape i).memory i.args)∧sizedMet enc C.prog fn (qZ s) apart (w.forCall tape i).memory i.args)∧a.holds C.prog (lone (Frame.enter C.prog f i.args .normal) [] (w.forCall tape i)))
 (ze:∀(W:aF)(base:Nat)(args:Array aS)(ds gs:List (RO H))(Jd:List NQ),(∀(j:Nat)t v,fn.params[j]? =some t→args[j]? =some v→RP C.prog W .any base t v)→
  DataW.Whole enc C.prog fn.params.toList s.vars apart W args.toList ds gs Jd→(tR C.prog (fn.params.toList++(qZ s).bare.plain.varTypes C.prog) (ds++gs)).all (·≤nJ)=true→X W args→W.ShapedOpen C.prog→
  Calls C.prog f args W fun e W'=>∃v,e=aQ v∧s.post enc C.prog fn apart fresh Y8 again W args v W'):
 ReturnsInHanded a C os f .any (fun w args=>(s.pre enc C.prog fn conds apart w args∧X w args)∧sizedMet enc C.prog fn (qZ s) apart w args) (s.post enc C.prog fn apart fresh Y8 again):=by
 refine returnsInHanded_of_calls own GX noInit witness ?_;intro w tape i _ Ym _ hok Lx _;obtain⟨_,_,_,fn',hfn',_,_,_,_,Np⟩:=hok;have e:fn'=fn:=dQ (hfn'.symm.trans Zt);subst e;obtain⟨⟨⟨ds,gs,Jd,hw,_⟩,hx⟩,hz⟩:=Lx;have Yp:=hz.weights hw;have hw':=DataW.Whole.of_heap (w':=w.forCall tape i) (by rfl) hw;refine(ze (w.forCall tape i) w.heap.size i.args ds gs Jd Np hw' Yp (hX _ _ _ (by rfl) hx) Ym).mono fun e W'⟨v,he,hp⟩=>?_;subst he;exact ChangeSpec.post_blind hp
theorem Fq:Tryz.f4.params= #[24]:=by kernel_rfl
theorem zg{H:Type}{enc:eC×aS→H}{W:aF}{base:Nat}{args:Array aS}{ds gs:List (RO H)}{Jd:List NQ}
 (Np:∀(j:Nat)t v,Tryz.f4.params[j]? =some t→args[j]? =some v→RP aC W .any base t v)
 (hW:DataW.Whole enc aC Tryz.f4.params.toList Rows.traceReflexSpec.vars false W args.toList ds gs Jd)
 (hz:(tR aC (Tryz.f4.params.toList++(qZ Rows.traceReflexSpec).bare.plain.varTypes aC) (ds++gs)).all (·≤nJ)=true)
 (hL:Io aC Rows.traceReflexRow.laid W)(hS:W.ShapedOpen aC):
 Calls aC 4 args W fun e W'=>∃v,e=aQ v∧Rows.traceReflexSpec.post enc aC XR false true false false W args v W':=by
 have hE:=env_of hL hS;have hD:=dirt_of hL;have hlt:=fun p hp=>DataW.Whole.lt hW p hp;have eQ:=hW;obtain⟨p,q,hA,hV,rfl,-,-⟩:=hW;rw[Fq]at hA Np hz;obtain⟨rfl,rfl⟩:=trodVars_none hV;obtain⟨v0,vs0,x0,ds0,p0,q0,ea0,rfl,rfl,h0,hA0⟩:=trodAll_cons hA;clear hA;obtain⟨rfl,rfl,rfl⟩:=trodAll_nil hA0;obtain⟨args⟩:=args;simp only[]at ea0;subst ea0;have hv:=Np 0 24 v0 rfl rfl;unfold RP at hv;rw[underlying24]at hv;obtain⟨cs0,rfl,-,-⟩:=hv;have g0:=h0;obtain⟨n0,t0⟩:=h0;obtain⟨a,n,ca,rs,c0,hl,hca,jq,rr,Yg⟩:=gz t0 (fun k hk=>of_decide_eq_true (List.all_eq_true.1 hz k (by
  show k∈tR aC (24::_) (x0::_);rw[tR];exact List.mem_append_left _ hk)))
 obtain⟨cs0⟩:=cs0;have c0:cs0=[.slice a n ca]:=c0;subst c0;have sT:n≤40→dA (bQ rs) n≤9223372036854775807:=fun h40=>by
  have TU:∀k,k≤n→dA (bQ rs) k≤k*140737488351232:=by
   intro k;induction k with
   |zero=>intro _;simp[dA]
   |succ k ih=>
    intro hk;have h1:=ih (by omega);have h2:(bQ rs k).length*56≤nJ:=Yg _ (eB (by omega) default);have h3:nJ=140737488351232:=rfl;rw[dA,Nat.succ_mul];omega
  have:=TU n (Nat.le_refl _);have h5:n*140737488351232≤40*140737488351232:=Nat.mul_le_mul_right _ h40;omega
 have hw:=Kf a n ca rs W hE hD hl sT (by unfold maxLen at jq;omega) rr;refine hw.mono ?_;rintro e W'⟨rfl,hb⟩;have lM:∀(t:eC)(v:aS)(d:RO H)(ps:List NQ),Tryz.prog.readableRec t=true→t<Tryz.prog.types.size→DataW.Trod enc aC W 0 (fun _=>true) true t v d ps→(∀x∈ps,x.block<W.heap.size)→DataW.Trod enc aC W' 0 (fun b=>decide (b<W.heap.size)) true t v d ps:=fun t v d ps hr ht h hlt=>
  Below.trod XH hr ht h hb hlt
 refine⟨_,rfl,_,_,_,[],p0++[],[],eQ,?_,?_,rfl,hb.frame _,fun h=>by cases h⟩
 ·exact trodAll_mk1 (shut_bool underlying4 _)
 ·show DataW.TrodAll enc aC W' 0 _ true Tryz.f4.params.toList _ [x0] _;rw[Fq];exact⟨p0,[],lM _ _ _ _ (by kernel_rfl) (of_decide_eq_true (by kernel_rfl)) g0 (fun x hx=>hlt x (by simp[hx])),rfl,rfl⟩
theorem zh(os:Os)(args:Array aS):Io aC Rows.traceReflexRow.laid ((World.laidAll aC os Rows.traceReflexRow.laid).forCall (fun _ _=>0) ⟨#[],args,[]⟩).memory:=by
 rw[wP _ _ _ (by kernel_rfl)];exact laidMet_laidAll args (by kernel_rfl) (by kernel_rfl)
theorem lifted(os:Os)(GX:os.Started)(H:Type)(enc:eC×aS→H):
 ReturnsInHanded {} Vc os 4 .any (fun w args=>(Rows.traceReflexSpec.pre enc aC XR [] false w args∧Io aC Rows.traceReflexRow.laid w)∧sizedMet enc aC XR (qZ Rows.traceReflexSpec) false w args)
  (Rows.traceReflexSpec.post enc aC XR false true false false):=by
 refine NJ (C:=Vc) (X:=fun w _=>Io aC Rows.traceReflexRow.laid w) (fun _ _ _ hh h=>h.of_heap hh) zz_own GX (by kernel_rfl) func4
  (ChangeSpec.witness_shaped (enc:=enc) (C:=Vc) (os:=os) (X:=fun w _=>Io aC Rows.traceReflexRow.laid w) false (World.laidAll aC os Rows.traceReflexRow.laid) #[.agg #[.slice none 0 0]] 8 (World.laidAll_os _ _ _)
   (World.shaped_of_ZipB (by kernel_rfl) (by kernel_rfl)) (by kernel_rfl) (by kernel_rfl) (by kernel_rfl) (zh os _)) ?_
 intro W base args ds gs Jd Np hW hz hL hS;exact zg Np hW hz hL hS
end
end Go.Proofs.YtckgmoobicmbnaaGreatDoor
